/- Which lists of variables are valid: the program and its reference ask the same. -/
import Derived.Test.YtjdhnhfglpogmaaGen
import Derived.Test.YtjdhnhfglpogmaaXA
import Derived.Test.YtjdhnhfglpogmaaPx4
import Derived.Test.YtjdhnhfglpogmaaPx2
import Derived.Outline
set_option linter.unusedSimpArgs false
set_option linter.unusedVariables false
namespace Go.Proofs.Ytjdhnhfglpogmaa.P
open Go.RowKit Go.Proofs.YtjdhnhfglpogmaaW.PrintWords Go.Proofs.YtjdhnhfglpogmaaW.PrintLast Go.Proofs.YtjdhnhfglpogmaaW.PrintMore

def rOk (ps : List Int) (below : Int) (j : Nat) : Bool := decide (0 ≤ rd ps j) && (decide (rd ps j < below) && (decide (j = 0) || decide (rd ps ((j - 1 : Nat) : Int) < rd ps j)))
def risingB (ps : List Int) (below : Int) : Bool := (List.range ps.length).all (rOk ps below)
def varB (v : S44) (i : Int) : Bool := if v.f1.length = 0 then decide (v.f2.length = 0) && (decide (0 ≤ v.f0) && decide (v.f0 ≤ 64)) else risingB v.f1 i && (decide (v.f1.length ≤ 4) && (decide ((v.f2.length : Int) = shl .i64 1 v.f1.length) && decide (v.f0 = 0)))
def validB (l : List S44) : Bool := decide (l.length ≤ 12) && (List.range l.length).all (fun i => varB (rd_T44 l i) i)

theorem ref_rising (ps : List Int) (below : Int) (hl : ps.length ≤ 9223372036854775807) : Ev (fun k => cohousingref36_rising.f k ps below) (risingB ps below) := by
  have h : Ev (fun k => cohousingref36_rising.l0 k ps below ((0 : Nat) : Int)) (if (List.range ps.length).all (rOk ps below) then true else false) := by
    refine loop_all0 (g := fun k i => cohousingref36_rising.l0 k ps below (i : Nat)) (p := rOk ps below) ?_ ?_ ?_
    · intro i hi hp
      have c1 : (i : Int) < (ps.length : Int) := by omega
      have c2 : 0 ≤ (i : Int) := by omega
      unfold rOk at hp
      refine Ev.ret fun k => ?_
      simp only [cohousingref36_rising.l0, if_pos c1, if_pos c2]
      by_cases h1 : rd ps i < 0
      · rw [if_pos h1]
      · rw [if_neg h1]
        by_cases h2 : rd ps i ≥ below
        · rw [if_pos h2]
        · rw [if_neg h2]
          have e1 : decide (0 ≤ rd ps i) = true := by simp; omega
          have e2 : decide (rd ps i < below) = true := by simp; omega
          rw [e1, e2] at hp
          simp only [Bool.true_and, Bool.or_eq_false_iff, decide_eq_false_iff_not] at hp
          obtain ⟨h3, h4⟩ := hp
          rw [wrapM i (by omega) (by omega)]
          rw [if_pos (by omega), if_pos (by omega), if_pos (by omega), if_pos (by omega)]
    · intro i hi hp r hr
      have c1 : (i : Int) < (ps.length : Int) := by omega
      have c2 : 0 ≤ (i : Int) := by omega
      unfold rOk at hp
      simp only [Bool.and_eq_true, decide_eq_true_eq, Bool.or_eq_true] at hp
      obtain ⟨h1, h2, h3⟩ := hp
      refine Ev.step (fun k => ?_) hr
      simp only [cohousingref36_rising.l0, if_pos c1, if_pos c2]
      rw [if_neg (by omega), if_neg (by omega), wrapN i (by omega)]
      by_cases h0 : i = 0
      · rw [if_neg (by omega)]
      · rw [if_pos (by omega), wrapM i (by omega) (by omega), if_pos (by omega), if_pos (by omega), if_neg (by omega)]
    · refine Ev.ret fun k => ?_
      simp only [cohousingref36_rising.l0]
      rw [if_neg (by omega)]
  unfold cohousingref36_rising.f
  have e : risingB ps below = (if (List.range ps.length).all (rOk ps below) then true else false) := by unfold risingB; cases (List.range ps.length).all (rOk ps below) <;> rfl
  rw [e]
  exact h

theorem cause_var (v : S44) (i : Nat) (hl : v.f1.length ≤ 9223372036854775807) : Ev (fun k => cause_valid.f k v.f0 v.f1 v.f2 i) (varB v i) := by
  by_cases h0 : v.f1.length = 0
  · have e : varB v i = (decide (v.f2.length = 0) && (decide (0 ≤ v.f0) && decide (v.f0 ≤ 64))) := by unfold varB; rw [if_pos h0]
    rw [e]
    refine ⟨0, fun k _ => ?_⟩
    simp only [cause_valid.f]
    rw [if_pos (by omega)]
    by_cases h1 : v.f2.length = 0
    · rw [if_pos (by omega)]
      by_cases h2 : 0 ≤ v.f0
      · rw [if_pos h2]; simp [h1, h2]
      · rw [if_neg h2]; simp [h1, h2]
    · rw [if_neg (by omega)]; simp [h1]
  · have e : varB v i = (if (List.range v.f1.length).all (rOk v.f1 i) then (decide (v.f1.length ≤ 4) && (decide ((v.f2.length : Int) = shl .i64 1 v.f1.length) && decide (v.f0 = 0))) else false) := by
      unfold varB risingB
      rw [if_neg h0]
      cases (List.range v.f1.length).all (rOk v.f1 i) <;> rfl
    rw [e]
    have h : Ev (fun k => cause_valid.l0 k i v.f1 v.f1.length ((0 : Nat) : Int) v.f0 v.f1 v.f2) (if (List.range v.f1.length).all (rOk v.f1 i) then (decide (v.f1.length ≤ 4) && (decide ((v.f2.length : Int) = shl .i64 1 v.f1.length) && decide (v.f0 = 0))) else false) := by
      refine loop_all0 (g := fun k j => cause_valid.l0 k i v.f1 v.f1.length (j : Nat) v.f0 v.f1 v.f2) (p := rOk v.f1 i) ?_ ?_ ?_
      · intro j hj hp
        have c1 : (j : Int) < (v.f1.length : Int) := by omega
        have c2 : 0 ≤ (j : Int) := by omega
        unfold rOk at hp
        refine Ev.ret fun k => ?_
        simp only [cause_valid.l0, if_pos c1, if_pos c2]
        by_cases h1 : rd v.f1 j < 0
        · rw [if_pos h1]
        · rw [if_neg h1]
          by_cases h2 : rd v.f1 j ≥ i
          · rw [if_pos h2]
          · rw [if_neg h2]
            have e1 : decide (0 ≤ rd v.f1 j) = true := by simp; omega
            have e2 : decide (rd v.f1 j < i) = true := by simp; omega
            rw [e1, e2] at hp
            simp only [Bool.true_and, Bool.or_eq_false_iff, decide_eq_false_iff_not] at hp
            obtain ⟨h3, h4⟩ := hp
            rw [wrapM j (by omega) (by omega)]
            rw [if_pos (by omega), if_pos (by omega), if_pos (by omega), if_pos (by omega)]
      · intro j hj hp r hr
        have c1 : (j : Int) < (v.f1.length : Int) := by omega
        have c2 : 0 ≤ (j : Int) := by omega
        unfold rOk at hp
        simp only [Bool.and_eq_true, decide_eq_true_eq, Bool.or_eq_true] at hp
        obtain ⟨h1, h2, h3⟩ := hp
        refine Ev.step (fun k => ?_) hr
        simp only [cause_valid.l0, if_pos c1, if_pos c2]
        rw [if_neg (by omega), if_neg (by omega), wrapN j (by omega)]
        by_cases h0 : j = 0
        · rw [if_neg (by omega)]
        · rw [if_pos (by omega), wrapM j (by omega) (by omega), if_pos (by omega), if_pos (by omega), if_neg (by omega)]
      · refine Ev.ret fun k => ?_
        simp only [cause_valid.l0]
        rw [if_neg (by omega)]
        by_cases h1 : v.f1.length ≤ 4
        · rw [if_pos (by omega)]
          by_cases h2 : (v.f2.length : Int) = shl .i64 1 v.f1.length
          · rw [if_pos h2]; simp [h1, h2]; rfl
          · rw [if_neg h2]; simp [h1, h2]
        · rw [if_neg (by omega)]; simp [h1]
    unfold cause_valid.f
    refine Ev.congr (fun k => ?_) h
    rw [if_neg (by omega)]
    rfl
theorem cause_valid_ev (l : List S44) (hw : ∀ v ∈ l, v.f1.length ≤ 9223372036854775807) : Ev (fun k => cause_Valid.f k l) (validB l) := by
  by_cases hl : l.length ≤ 12
  · have h : Ev (fun k => cause_Valid.l0 k l l.length ((0 : Nat) : Int)) (if (List.range l.length).all (fun i => varB (rd_T44 l i) i) then true else false) := by
      have hm : ∀ i, i < l.length → rd_T44 l (i : Int) ∈ l := fun i hi => by simp [rd_T44, List.getD_eq_getElem?_getD, List.getElem?_eq_getElem hi]
      refine loop_all0 (g := fun k j => cause_Valid.l0 k l l.length (j : Nat)) (p := fun i => varB (rd_T44 l i) i) ?_ ?_ ?_
      · intro i hi hp
        have c1 : (i : Int) < (l.length : Int) := by omega
        have c2 : 0 ≤ (i : Int) := by omega
        have hv := cause_var (rd_T44 l i) i (hw _ (hm i hi))
        rw [hp] at hv
        refine Ev.step (fun k => ?_) (Ev.bind (f := fun k t => if t = true then cause_Valid.l0 k l l.length (wrap64 ((i : Int) + 1)) else some false) hv (Ev.now false))
        simp only [cause_Valid.l0, if_pos c1, if_pos c2]
      · intro i hi hp r hr
        have c1 : (i : Int) < (l.length : Int) := by omega
        have c2 : 0 ≤ (i : Int) := by omega
        have hv := cause_var (rd_T44 l i) i (hw _ (hm i hi))
        rw [hp] at hv
        refine Ev.step (fun k => ?_) (Ev.bind (f := fun k t => if t = true then cause_Valid.l0 k l l.length ((i + 1 : Nat) : Int) else some false) hv (by simpa using hr))
        simp only [cause_Valid.l0, if_pos c1, if_pos c2]
        rw [wrapN i (by omega)]
      · refine Ev.ret fun k => ?_
        simp only [cause_Valid.l0]
        rw [if_neg (by omega)]
    have e : validB l = (if (List.range l.length).all (fun i => varB (rd_T44 l i) i) then true else false) := by
      unfold validB
      rw [decide_eq_true hl, Bool.true_and]
      cases (List.range l.length).all (fun i => varB (rd_T44 l i) i) <;> rfl
    rw [e]
    unfold cause_Valid.f
    refine Ev.congr (fun k => ?_) h
    rw [if_neg (by omega)]
    rfl
  · have e : validB l = false := by unfold validB; rw [decide_eq_false hl, Bool.false_and]
    rw [e]
    refine ⟨0, fun k _ => ?_⟩
    simp only [cause_Valid.f]
    rw [if_pos (by omega)]

theorem ref_valid_ev (l : List S44) (hw : ∀ v ∈ l, v.f1.length ≤ 9223372036854775807) : Ev (fun k => cohousingref36_Valid.f k l) (validB l) := by
  by_cases hl : l.length ≤ 12
  · have h : Ev (fun k => cohousingref36_Valid.l0 k l ((0 : Nat) : Int)) (if (List.range l.length).all (fun i => varB (rd_T44 l i) i) then true else false) := by
      have hm : ∀ i, i < l.length → rd_T44 l (i : Int) ∈ l := fun i hi => by simp [rd_T44, List.getD_eq_getElem?_getD, List.getElem?_eq_getElem hi]
      have j2 : ∀ (i : Nat) (v : S44) (b : Bool) (r : Bool), i < 12 → (b = false → (v.f1.length = 0 ∨ (v.f2.length : Int) = shl .i64 1 v.f1.length ∧ v.f0 = 0) → Ev (fun k => cohousingref36_Valid.l0 k l ((i + 1 : Nat) : Int)) r) →
          (b = true ∨ ¬ (v.f1.length = 0 ∨ (v.f2.length : Int) = shl .i64 1 v.f1.length ∧ v.f0 = 0) → r = false) → Ev (fun k => cohousingref36_Valid.j2 k l i b v.f0 v.f1 v.f2) r := by
        intro i v b r hi h1 h2
        cases b with
        | true =>
          rw [h2 (.inl rfl)]
          refine Ev.ret fun k => ?_
          simp only [cohousingref36_Valid.j2, if_true]
        | false =>
          by_cases h0 : v.f1.length = 0
          · refine Ev.step (fun k => ?_) (h1 rfl (.inl h0))
            simp only [cohousingref36_Valid.j2, Bool.false_eq_true, if_false]
            rw [if_neg (by omega), wrapN i (by omega)]
          · by_cases h3 : (v.f2.length : Int) = shl .i64 1 v.f1.length
            · by_cases h4 : v.f0 = 0
              · refine Ev.step (fun k => ?_) (h1 rfl (.inr ⟨h3, h4⟩))
                simp only [cohousingref36_Valid.j2, Bool.false_eq_true, if_false]
                rw [if_pos (by omega), if_pos h3, if_pos h4, wrapN i (by omega)]
              · rw [h2 (.inr (by simp only [h0, h4, false_or, and_false, not_false_eq_true]))]
                refine Ev.ret fun k => ?_
                simp only [cohousingref36_Valid.j2, Bool.false_eq_true, if_false]
                rw [if_pos (by omega), if_pos h3, if_neg h4]
            · rw [h2 (.inr (by simp only [h0, h3, false_or, false_and, not_false_eq_true]))]
              refine Ev.ret fun k => ?_
              simp only [cohousingref36_Valid.j2, Bool.false_eq_true, if_false]
              rw [if_pos (by omega), if_neg h3]
      have j1 : ∀ (i : Nat) (v : S44) (b : Bool) (r : Bool), i < 12 → (b = false → (v.f1.length = 0 → v.f2.length = 0 ∧ 0 ≤ v.f0 ∧ v.f0 ≤ 64) → (v.f1.length = 0 ∨ (v.f2.length : Int) = shl .i64 1 v.f1.length ∧ v.f0 = 0) → Ev (fun k => cohousingref36_Valid.l0 k l ((i + 1 : Nat) : Int)) r) →
          (b = true ∨ ¬ (v.f1.length = 0 → v.f2.length = 0 ∧ 0 ≤ v.f0 ∧ v.f0 ≤ 64) ∨ ¬ (v.f1.length = 0 ∨ (v.f2.length : Int) = shl .i64 1 v.f1.length ∧ v.f0 = 0) → r = false) → Ev (fun k => cohousingref36_Valid.j1 k l i b v.f0 v.f1 v.f2) r := by
        intro i v b r hi h1 h2
        cases b with
        | true =>
          rw [h2 (.inl rfl)]
          refine Ev.ret fun k => ?_
          simp only [cohousingref36_Valid.j1, if_true]
        | false =>
          by_cases h0 : v.f1.length = 0
          · by_cases h3 : v.f2.length = 0
            · by_cases h4 : v.f0 < 0
              · refine Ev.step (fun k => ?_) (j2 i v true r hi (fun e => by cases e) (fun _ => h2 (.inr (.inl (fun q => by have := q h0; omega)))))
                simp only [cohousingref36_Valid.j1, Bool.false_eq_true, if_false]
                rw [if_pos (by omega), if_pos (by omega), if_pos h4]
              · refine Ev.step (fun k => ?_) (j2 i v (decide (v.f0 > 64)) r hi (fun e g => h1 rfl (fun _ => by have := of_decide_eq_false e; exact ⟨h3, by omega, by omega⟩) g) (fun g => by
                  rcases g with g | g
                  · have := of_decide_eq_true g
                    exact h2 (.inr (.inl (fun q => by have := q h0; omega)))
                  · exact h2 (.inr (.inr g))))
                simp only [cohousingref36_Valid.j1, Bool.false_eq_true, if_false]
                rw [if_pos (by omega), if_pos (by omega), if_neg h4]
            · refine Ev.step (fun k => ?_) (j2 i v true r hi (fun e => by cases e) (fun _ => h2 (.inr (.inl (fun q => h3 (q h0).1)))))
              simp only [cohousingref36_Valid.j1, Bool.false_eq_true, if_false]
              rw [if_pos (by omega), if_neg (by omega)]
          · refine Ev.step (fun k => ?_) (j2 i v false r hi (fun _ g => h1 rfl (fun q => absurd q h0) g) (fun g => by
              rcases g with g | g
              · cases g
              · exact h2 (.inr (.inr g))))
            simp only [cohousingref36_Valid.j1, Bool.false_eq_true, if_false]
            rw [if_neg (by omega)]
      have one : ∀ (i : Nat) (r : Bool), i < l.length → (varB (rd_T44 l i) i = true → Ev (fun k => cohousingref36_Valid.l0 k l ((i + 1 : Nat) : Int)) r) → (varB (rd_T44 l i) i = false → r = false) → Ev (fun k => cohousingref36_Valid.l0 k l (i : Nat)) r := by
        intro i r hi h1 h2
        have c1 : (i : Int) < (l.length : Int) := by omega
        have c2 : 0 ≤ (i : Int) := by omega
        have hwv := hw _ (hm i hi)
        generalize hv : rd_T44 l (i : Int) = v at *
        have hrb := ref_rising v.f1 i hwv
        by_cases h4 : v.f1.length ≤ 4
        · refine Ev.step (fun k => ?_) (Ev.bind (f := fun k t => cohousingref36_Valid.j1 k l i (!t) v.f0 v.f1 v.f2) hrb (j1 i v (!(risingB v.f1 i)) r (by omega) ?_ ?_))
          · simp only [cohousingref36_Valid.l0, if_pos c1, if_pos c2, hv]
            rw [if_neg (by omega)]
          · intro hb g1 g2
            refine h1 ?_
            unfold varB
            by_cases h0 : v.f1.length = 0
            · obtain ⟨q1, q2, q3⟩ := g1 h0
              rw [if_pos h0]
              simp [q1, q2, q3]
            · rw [if_neg h0]
              rcases g2 with g2 | ⟨g2, g3⟩
              · exact absurd g2 h0
              · have : risingB v.f1 i = true := by simpa using hb
                simp only [this, h4, g2, g3, decide_true, Bool.and_self]
          · intro hb
            refine h2 ?_
            unfold varB
            by_cases h0 : v.f1.length = 0
            · rw [if_pos h0]
              have hnil : v.f1 = [] := List.eq_nil_of_length_eq_zero h0
              rcases hb with hb | hb | hb
              · rw [hnil] at hb; simp [risingB] at hb
              · by_cases q1 : v.f2.length = 0
                · by_cases q2 : 0 ≤ v.f0
                  · by_cases q3 : v.f0 ≤ 64
                    · exact absurd (fun _ => ⟨q1, q2, q3⟩) hb
                    · simp only [q3, decide_false, Bool.and_false]
                  · simp only [q2, decide_false, Bool.false_and, Bool.and_false]
                · simp only [q1, decide_false, Bool.false_and]
              · exact absurd (.inl h0) hb
            · rw [if_neg h0]
              rcases hb with hb | hb | hb
              · have : risingB v.f1 i = false := by simpa using hb
                rw [this, Bool.false_and]
              · exact absurd (fun q => absurd q h0) hb
              · by_cases q1 : (v.f2.length : Int) = shl .i64 1 v.f1.length
                · by_cases q2 : v.f0 = 0
                  · exact absurd (.inr ⟨q1, q2⟩) hb
                  · simp only [q2, decide_false, Bool.and_false]
                · simp only [q1, decide_false, Bool.false_and, Bool.and_false]
        · rw [h2 (by unfold varB; rw [if_neg (by omega), decide_eq_false h4]; simp)]
          refine Ev.step (fun k => ?_) (j1 i v true false (by omega) (fun e => by cases e) (fun _ => rfl))
          simp only [cohousingref36_Valid.l0, if_pos c1, if_pos c2, hv]
          rw [if_pos (by omega)]
      refine loop_all0 (g := fun k j => cohousingref36_Valid.l0 k l (j : Nat)) (p := fun i => varB (rd_T44 l i) i) ?_ ?_ ?_
      · intro i hi hp
        exact one i false hi (fun h => by simp [h] at hp) (fun _ => rfl)
      · intro i hi hp r hr
        exact one i r hi (fun _ => hr) (fun h => by simp [h] at hp)
      · refine Ev.ret fun k => ?_
        simp only [cohousingref36_Valid.l0]
        rw [if_neg (by omega)]
    have e : validB l = (if (List.range l.length).all (fun i => varB (rd_T44 l i) i) then true else false) := by
      unfold validB
      rw [decide_eq_true hl, Bool.true_and]
      cases (List.range l.length).all (fun i => varB (rd_T44 l i) i) <;> rfl
    rw [e]
    refine Ev.congr (fun k => ?_) h
    simp only [cohousingref36_Valid.f]
    rw [if_neg (by omega)]
    rfl
  · have e : validB l = false := by unfold validB; rw [decide_eq_false hl, Bool.false_and]
    rw [e]
    refine ⟨0, fun k _ => ?_⟩
    simp only [cohousingref36_Valid.f]
    rw [if_pos (by omega)]
theorem mem_rd (l : List S44) {i : Nat} (hi : i < l.length) : rd_T44 l (i : Int) ∈ l := by simp [rd_T44, List.getD_eq_getElem?_getD, List.getElem?_eq_getElem hi]
theorem risingB_bound {ps : List Int} {below : Int} (h : risingB ps below = true) : ∀ p ∈ ps, 0 ≤ p ∧ p < below := by
  intro p hp
  obtain ⟨j, hj⟩ := List.getElem?_of_mem hp
  have hlt := (List.getElem?_eq_some_iff.1 hj).1
  have h1 := List.all_eq_true.1 h j (by simpa using hlt)
  have e : rd ps (j : Int) = p := by simp [rd, List.getD_eq_getElem?_getD, hj]
  unfold rOk at h1
  rw [e] at h1
  simp only [Bool.and_eq_true, decide_eq_true_eq] at h1
  exact ⟨h1.1, h1.2.1⟩
theorem shl_one (n : Nat) (h : n ≤ 4) : shl .i64 1 (n : Int) = ((2 ^ n : Nat) : Int) := by
  match n, h with
  | 0, _ => decide
  | 1, _ => decide
  | 2, _ => decide
  | 3, _ => decide
  | 4, _ => decide
theorem valid_len {l : List S44} (h : validB l = true) : l.length ≤ 12 := by
  unfold validB at h
  simp only [Bool.and_eq_true, decide_eq_true_eq] at h
  exact h.1
theorem valid_at {l : List S44} (h : validB l = true) {i : Nat} (hi : i < l.length) : varB (rd_T44 l i) i = true := by
  unfold validB at h
  simp only [Bool.and_eq_true] at h
  exact List.all_eq_true.1 h.2 i (by simpa using hi)
theorem valid_back {l : List S44} (h : validB l = true) : Back l := by
  intro i hi p hp
  have hv := valid_at h hi
  unfold varB at hv
  split at hv
  · rename_i h0
    rw [List.eq_nil_of_length_eq_zero h0] at hp
    simp at hp
  · simp only [Bool.and_eq_true] at hv
    exact risingB_bound hv.1 p hp
theorem valid_ok {l : List S44} (h : validB l = true) : ∀ v ∈ l, VarOk v := by
  intro v hv
  obtain ⟨i, hi⟩ := List.getElem?_of_mem hv
  have hlt := (List.getElem?_eq_some_iff.1 hi).1
  have e : rd_T44 l (i : Int) = v := by simp [rd_T44, List.getD_eq_getElem?_getD, hi]
  have hb := valid_back h i hlt
  have hl := valid_len h
  have ha := valid_at h hlt
  rw [e] at hb ha
  refine ⟨?_, fun p hp => by have := hb p hp; omega⟩
  unfold varB at ha
  split at ha
  · rename_i h0; exact .inl h0
  · simp only [Bool.and_eq_true, decide_eq_true_eq] at ha
    obtain ⟨_, h4, h2, _⟩ := ha
    rw [shl_one _ h4] at h2
    exact .inr ⟨h4, by omega⟩
theorem len63 {w : World} {A : Option Addr} {l : List S44} (h : Kd.C k44 w A l.length l) : ∀ v ∈ l, v.f1.length ≤ 9223372036854775807 := by
  intro v hv
  obtain ⟨i, hi⟩ := List.getElem?_of_mem hv
  have hlt := (List.getElem?_eq_some_iff.1 hi).1
  have e : rd_T44 l (i : Int) = v := by simp [rd_T44, List.getD_eq_getElem?_getD, hi]
  obtain ⟨ad, A1, c1, A2, c2, _, _, _, _, _, hi1, _, _⟩ := at_T44 h (i : Int) (by omega) (by omega)
  rw [e] at hi1
  exact hi1.2.1
end Go.Proofs.Ytjdhnhfglpogmaa.P
/- cause.Run: the values of all variables. -/
set_option linter.unusedSimpArgs false
set_option linter.unusedVariables false
namespace Go.Proofs.Ytjdhnhfglpogmaa.P
open Go.RowKit Go.Proofs.YtjdhnhfglpogmaaW.PrintWords Go.Proofs.YtjdhnhfglpogmaaW.PrintLast Go.Proofs.YtjdhnhfglpogmaaW.PrintMore

/-- The number of a state. -/
def stF (free : List Bool) (m : Nat) : Nat → Nat
  | 0 => 0
  | k + 1 => stF free m k ||| (if free.getD k false then 2 ^ (m - 1 - k) else 0)
theorem stF_lt (free : List Bool) (m : Nat) : ∀ k, k ≤ m → stF free m k < 2 ^ m
  | 0, _ => by simpa [stF] using Nat.two_pow_pos m
  | k + 1, hk => or_lt (stF_lt free m k (by omega)) (ite_lt (by omega))
theorem stF_bit (free : List Bool) (m j : Nat) (hj : j < m) : ∀ k, k ≤ m → (stF free m k).testBit (m - 1 - j) = (decide (j < k) && free.getD j false)
  | 0, _ => by simp [stF]
  | k + 1, hk => by
    have ih := stF_bit free m j hj k (by omega)
    simp only [stF, Nat.testBit_or, ih]
    by_cases hjk : j = k
    · subst hjk
      cases free.getD j false <;> simp [Nat.testBit_two_pow]
    · have : (if free.getD k false then 2 ^ (m - 1 - k) else 0).testBit (m - 1 - j) = false := by
        split
        · rw [Nat.testBit_two_pow]; simp; omega
        · simp
      rw [this, Bool.or_false]
      by_cases h : j < k
      · rw [decide_eq_true h, decide_eq_true (show j < k + 1 by omega)]
      · rw [decide_eq_false h, decide_eq_false (show ¬ j < k + 1 by omega)]
theorem fill_step (X : List Bool) (k : Nat) (hk : k < X.length) : (X.take k ++ List.replicate (X.length - k) false).set k (X.getD k false) = X.take (k + 1) ++ List.replicate (X.length - (k + 1)) false := by
  have h1 : (X.take k).length = k := by rw [List.length_take]; omega
  rw [List.set_append_right _ _ (by omega), h1, Nat.sub_self, show X.length - k = (X.length - (k + 1)) + 1 from by omega, List.replicate_succ, List.set_cons_zero, List.take_succ_eq_append_getElem hk, List.append_assoc]
  simp [List.getD_eq_getElem?_getD, List.getElem?_eq_getElem hk]
/-- Where an own row's cell lies, and that it can be written. -/
theorem row_cell {W : World} {base g n c : Nat} {ok : Nat → Prop} {xs : List Bool} (h : Kd.R Kd.bool 4 W base ok (.slice (some ⟨g, 0, none⟩) n c) xs) (k : Nat) (hk : k < xs.length) :
    (∃ b, W.cell? ⟨g, k, none⟩ = some (.bool b)) ∧ W.frozen? ⟨g, k, none⟩ = false ∧ base ≤ g := by
  obtain ⟨inner, ho⟩ := Kd.R_own h
  obtain ⟨cells, hc⟩ := own_typed ho g rfl
  obtain ⟨A, c', he, hl, hC⟩ := Kd.R_reads h
  simp only [Value.slice.injEq] at he
  obtain ⟨rfl, rfl, rfl⟩ := he
  obtain ⟨ad, e, hx⟩ := Kd.at_bool hC (k : Int) (by omega) (by omega)
  cases e
  rw [Int.toNat_natCast, add_plain] at hx
  exact ⟨⟨_, hx⟩, blk_frozen hc k, own_base ho g rfl⟩
/-- What Run gives. -/
def runV (l : List S44) (free : List Bool) : List Bool × Int := if validB l && decide (free.length = (freeOf l).length) then (runB l free, 0) else ([], 1)

set_option maxRecDepth 100000 in
set_option maxHeartbeats 4000000 in
theorem run_calls (A0 : Option Addr) (c0 : Nat) (l0 : List S44) (A1 : Option Addr) (c1 : Nat) (l1 : List Bool) (w : World) (hr0 : Kd.C k44 w A0 l0.length l0) (hc0 : l0.length ≤ c0) (hr1 : Kd.C Kd.bool w A1 l1.length l1) :
    Calls Try.prog 13 #[.slice A0 l0.length c0, .slice A1 l1.length c1] w fun e w' => ∃ v0_ : Value, e = .returned (.tuple #[v0_, .int .i64 (runV l0 l1).2]) ∧ Kd.R Kd.bool 4 w' w.heap.size (fun _ => True) v0_ (runV l0 l1).1 ∧ Below w.heap.size w w' := by
  obtain ⟨kv, hkv⟩ := (cause_valid_ev l0 (len63 hr0)).rounds
  have hl63 : l1.length ≤ 9223372036854775807 := hr1.2.1
  have HR0 := Lib.hid hr0
  have HR1 := Lib.hid hr1
  have hu60 := Try.underlying60
  cases hval : validB l0 with
  | false =>
    rw [hval] at hkv
    have hn := Lib.hid (newModel_no kv A0 c0 l0 w hr0 hc0 hkv)
    have hv : Hid (runV l0 l1 = ([], 1)) := by unfold Hid runV; rw [hval]; rfl
    rw [hv.out]
    clear hkv hval hr0 hr1
    go_enter Try.func13, Try.ntmps13
    go_wp2_with fail
    refine hn.out.mono ?_
    rintro e w1 ⟨rfl, hb⟩
    go_wp2_with fail
    go_ret2
    exact ⟨_, rfl, Kd.R_nil _ _ _ _ _, hb⟩
  | true =>
    rw [hval] at hkv
    have hlen := valid_len hval
    have hn := Lib.hid (newModel_yes kv A0 c0 l0 w hr0 hc0 hkv (by omega))
    have hfl : (freeOf l0).length ≤ 12 := Nat.le_trans (freeAt_length l0 0) hlen
    by_cases hfe : l1.length = (freeOf l0).length
    · have hv : Hid (runV l0 l1 = (runB l0 l1, 0)) := by unfold Hid runV; rw [hval, decide_eq_true hfe]; rfl
      rw [hv.out]
      have hne : ((l1.length : Int) != ((freeOf l0).length : Int)) = false := by simp [hfe]
      have hvc := Lib.hid (fun s g W hs hW => values_calls g l0 (freeOf l0) s W hW hlen hfl hs (fun i hi => ⟨(freeOf_bound l0 i hi).1, by have := (freeOf_bound l0 i hi).2; omega⟩) (valid_ok hval))
      have hrun := Lib.hid (val_run l0 (valid_back hval) l1 (stF l1 l1.length l1.length) (fun k hk => by rw [← hfe]; rw [stF_bit l1 l1.length k (by omega) _ (Nat.le_refl _), decide_eq_true (by omega), Bool.true_and]) l0.length (Nat.le_refl _)).1
      have hvlt := valN_lt l0 (initN (freeOf l0) (stF l1 l1.length l1.length) (freeOf l0).length) (initN_lt _ _ (fun i hi => ⟨(freeOf_bound l0 i hi).1, by have := (freeOf_bound l0 i hi).2; omega⟩) _ (Nat.le_refl _)) l0.length hlen
      have hbc := Lib.hid (fun g k W hW hk => bit_calls g l0 (freeOf l0) k W hW hk (by omega))
      have hl1 : l1.length ≤ 12 := by omega
      have hsl := stF_lt l1 l1.length l1.length (Nat.le_refl _)
      have HFE := Lib.hid hfe
      have hmk := Lib.hid (fun W => run_make_row' (P := Try.prog) 23 4 (.bool false) 1 Try.underlying23 info4 rfl .i64 .i64 l0.length (by omega) (by omega) W)
      clear hkv hval hr0 hr1 hfe
      go_enter Try.func13, Try.ntmps13
      go_wp2_with fail
      refine hn.out.mono ?_
      rintro e w1 ⟨g, rfl, hM, hgs, hb⟩
      have HM := Lib.hid hM
      obtain ⟨AM, cM, FM, dM, hblk, _, _, _, _⟩ := hM
      have hg1 : w1.cell? ⟨g, 1, none⟩ = some (.slice FM (freeOf l0).length dM) := blk_cell hblk 1
      clear hblk
      go_wp2_with fail
      go_loopw [8, 33] (fun o i wr => ∃ (k : Nat), k ≤ l1.length ∧ i = .int .i64 k ∧ o = .int .u64 (stF l1 l1.length k : Nat) ∧ w1 = wr) (fun _ i _ => l1.length - (intOf i).toNat)
      case atStart => exact ⟨0, Nat.zero_le _, rfl, rfl, rfl⟩
      case round =>
        obtain ⟨k, hk, rfl, rfl, rfl⟩ := hrel
        by_cases hlt : k < l1.length
        · obtain ⟨ad, e, hx0⟩ := Kd.at_bool HR1.out (k : Int) (by omega) (by omega)
          cases e
          simp only [Int.toNat_natCast] at hx0
          replace hx0 := (hb.cell (World.block_lt_of_cell? w _ hx0)).trans hx0
          have hst : Hid (stF l1 l1.length (k + 1) = stF l1 l1.length k ||| (if rdOf false l1 k then 2 ^ (l1.length - 1 - k) else 0)) := by
            unfold Hid
            rfl
          have hsk := stF_lt l1 l1.length k hk
          have hs12 : stF l1 l1.length k < 2 ^ 32 := Nat.lt_of_lt_of_le hsk (Nat.pow_le_pow_right (by omega) (by omega))
          clear hsk
          generalize stF l1 l1.length k = o1 at *
          cases hbk : rdOf false l1 (k : Int) with
          | false =>
            rw [hbk] at hx0 hst
            go_wp2_with fail
            go_roundw
            case rel => exact ⟨k + 1, by omega, by go_num, by rw [hst.out]; simp, trivial⟩
            case measure => simp [intOf]; omega
          | true =>
            rw [hbk] at hx0 hst
            have hsh := Lib.hid (shl_one_u64 (l1.length - 1 - k) (by omega))
            have hor := Lib.hid (or_u64 o1 (2 ^ (l1.length - 1 - k)) hs12 (pow_lt32 (by omega)))
            go_wp2_with fail
            have hq := hbc.out g k w1 HM.out (by have := HFE.out; omega)
            rw [← HFE.out] at hq
            refine hq.mono ?_
            clear hq
            rintro e w' ⟨rfl, rfl⟩
            go_wp2_with fail
            go_roundw
            case rel => exact ⟨k + 1, by omega, by go_num, by rw [hsh.out, hor.out, hst.out]; simp, trivial⟩
            case measure => simp [intOf]; omega
        · obtain rfl : k = l1.length := by omega
          go_wp2_with fail
          refine (hvc.out (stF l1 l1.length l1.length) g w1 (by have := HFE.out; rw [← this]; exact hsl) HM.out).mono ?_
          rintro e w2 ⟨rfl, hb2⟩
          generalize valN l0 (initN (freeOf l0) (stF l1 l1.length l1.length) (freeOf l0).length) l0.length = V at *
          have HB := Lib.hid (below_step hb hb2)
          clear hb hb2 hg1 hsl
          have hmk' := hmk.out
          go_wp2_with fail
          clear hmk'
          have hXl : (runB l0 l1).length = l0.length := runB_len l0 l1
          have HX := Lib.hid (fun j (hj : j < l0.length) => (hrun.out j hj).trans (by rw [List.take_length]))
          have hfs := Lib.hid (fill_step (runB l0 l1))
          generalize hX : runB l0 l1 = X at *
          have HXE := Lib.hid hX
          clear hX
          have HXL := Lib.hid hXl
          clear hXl
          go_loopw [54] (fun i wr => ∃ (k : Nat), k ≤ l0.length ∧ i = .int .i64 k ∧ Kd.R Kd.bool 4 wr w.heap.size (fun _ => True) (.slice (some ⟨w2.heap.size, 0, none⟩) l0.length l0.length) (X.take k ++ List.replicate (X.length - k) false) ∧ Below w.heap.size w wr) (fun i _ => l0.length - (intOf i).toNat)
          case atStart =>
            have h0 := own_made_of' (enc := Value.bool) (d := false) w2 w.heap.size 4 l0.length HB.out.size (by omega)
            exact ⟨0, Nat.zero_le _, rfl, by rw [List.take_zero, List.nil_append, HXL.out, Nat.sub_zero]; exact Kd.R_of_own h0 (fun _ _ => trivial), below_alloc HB.out _⟩
          case round =>
            obtain ⟨k, hk, rfl, hR, hBr⟩ := hrel
            by_cases hlt : k < l0.length
            · obtain ⟨⟨b0, hc1⟩, hf1, hbs⟩ := row_cell hR k (by simp only [List.length_append, List.length_take, List.length_replicate]; have := HXL.out; omega)
              have hbit := bit_u64 V k (by omega)
              rw [HX.out k hlt] at hbit
              have hfk := Lib.hid (hfs.out k (by have := HXL.out; omega))
              have HR := Lib.hid hR
              clear hR
              generalize X.getD k false = bk at *
              cases bk <;> simp only [Bool.false_eq_true, if_false, if_true] at hbit
              all_goals
                go_wp2_with fail
                go_roundw
                case rel => exact ⟨k + 1, by omega, by go_num, by rw [← hfk.out]; exact Kd.R_putn HR.out (k : Int) _, below_set hBr hbs⟩
                case measure => simp [intOf]; omega
            · obtain rfl : k = l0.length := by omega
              go_wp2_with fail
              go_ret2
              exact ⟨.slice (some ⟨w2.heap.size, 0, none⟩) l0.length l0.length, rfl, by rw [show X.take l0.length ++ List.replicate (X.length - l0.length) false = X from by rw [← HXL.out, List.take_length, Nat.sub_self]; simp] at hR; first | exact hR | (rw [HXE.out]; exact hR), hBr⟩
    · have hv : Hid (runV l0 l1 = ([], 1)) := by unfold Hid runV; rw [hval, decide_eq_false hfe]; rfl
      rw [hv.out]
      have hne : ((l1.length : Int) != ((freeOf l0).length : Int)) = true := by simp; omega
      clear hkv hval hr0 hr1 hfe
      go_enter Try.func13, Try.ntmps13
      go_wp2_with fail
      refine hn.out.mono ?_
      rintro e w1 ⟨g, rfl, hM, hgs, hb⟩
      obtain ⟨AM, cM, FM, dM, hblk, _, _, _, _⟩ := hM
      have hg1 : w1.cell? ⟨g, 1, none⟩ = some (.slice FM (freeOf l0).length dM) := blk_cell hblk 1
      clear hblk
      go_wp2_with fail
      go_ret2
      exact ⟨_, rfl, Kd.R_nil _ _ _ _ _, hb⟩
def cause_Run.f (l0 : List S44) (l1 : List Bool) : Option (List Bool × Int) := some (runV l0 l1)
theorem cause_Run.calls (A0 : Option Addr) (c0 : Nat) (l0 : List S44) (A1 : Option Addr) (c1 : Nat) (l1 : List Bool) (r1 : List Bool) (r2 : Int) (w : World) (hr0 : Kd.C k44 w A0 l0.length l0) (hc0 : l0.length ≤ c0) (hr1 : Kd.C Kd.bool w A1 l1.length l1) (hc1 : l1.length ≤ c1) (h : cause_Run.f l0 l1 = some (r1, r2)) :
    Calls Try.prog 13 #[.slice A0 l0.length c0, .slice A1 l1.length c1] w fun e w' => ∃ v0_ : Value, e = .returned (.tuple #[v0_, .int .i64 r2]) ∧ Kd.R Kd.bool 4 w' w.heap.size (fun _ => True) v0_ r1 ∧ Below w.heap.size w w' := by
  have hrun := run_calls A0 c0 l0 A1 c1 l1 w hr0 hc0 hr1
  have e := Option.some.inj h
  rw [e] at hrun
  exact hrun
end Go.Proofs.Ytjdhnhfglpogmaa.P
/- cause.States: the states that agree. -/
set_option linter.unusedSimpArgs false
set_option linter.unusedVariables false
namespace Go.Proofs.Ytjdhnhfglpogmaa.P
open Go.RowKit Go.Proofs.YtjdhnhfglpogmaaW.PrintWords Go.Proofs.YtjdhnhfglpogmaaW.PrintLast Go.Proofs.YtjdhnhfglpogmaaW.PrintMore

/-- The states that agree, as numbers and as lists. -/
def agS (l : List S44) (seen : List S48) (day : Int) : List Nat := (List.range (2 ^ (freeOf l).length)).filter (agB l seen day)
def stBits (m s : Nat) : List Bool := (List.range m).map (fun k => s.testBit (m - 1 - k))
def statesB (l : List S44) (seen : List S48) (day : Int) : List (List Bool) := (agS l seen day).map (stBits (freeOf l).length)
def statesV (l : List S44) (seen : List S48) (day : Int) : List (List Bool) × Int := if validB l && seenB l.length seen day then (statesB l seen day, 0) else ([], 1)
theorem agN_S (l : List S44) (seen : List S48) (day : Int) : agN l seen day (2 ^ (freeOf l).length) = (agS l seen day).map (fun s : Nat => (s : Int)) := rfl
theorem agS_lt (l : List S44) (seen : List S48) (day : Int) : ∀ s ∈ agS l seen day, s < 2 ^ (freeOf l).length := by
  intro s hs
  simpa using (List.mem_filter.1 hs).1
theorem stBits_len (m s : Nat) : (stBits m s).length = m := by simp [stBits]
theorem stBits_get (m s k : Nat) (hk : k < m) : (stBits m s).getD k false = s.testBit (m - 1 - k) := by simp [stBits, List.getD_eq_getElem?_getD, hk]
theorem seen_bound {n : Nat} {seen : List S48} {day : Int} (h : seenB n seen day = true) (hn : n ≤ 12) : ∀ s ∈ seen, 0 ≤ s.f0 ∧ s.f0 < 12 := by
  intro s hs
  unfold seenB at h
  simp only [Bool.and_eq_true, Bool.not_eq_true'] at h
  have h1 := h.1.2
  rw [List.any_eq_false] at h1
  have h2 := h1 s hs
  unfold oddB at h2
  simp only [Bool.or_eq_true, decide_eq_true_eq, not_or] at h2
  omega
theorem rd_map (X : List Nat) (i : Nat) : rd (X.map (fun s : Nat => (s : Int))) (i : Int) = ((X.getD i 0 : Nat) : Int) := by
  simp only [rd, Int.toNat_natCast, List.getD_eq_getElem?_getD, List.getElem?_map]
  cases X[i]? <;> rfl

set_option maxRecDepth 100000 in
set_option maxHeartbeats 4000000 in
theorem states_calls (A0 : Option Addr) (c0 : Nat) (l0 : List S44) (A1 : Option Addr) (c1 : Nat) (l1 : List S48) (a2 : Int) (w : World) (hr0 : Kd.C k44 w A0 l0.length l0) (hc0 : l0.length ≤ c0) (hr1 : Kd.C k48 w A1 l1.length l1) :
    Calls Try.prog 18 #[.slice A0 l0.length c0, .slice A1 l1.length c1, .int .i64 a2] w fun e w' => ∃ v0_ : Value, e = .returned (.tuple #[v0_, .int .i64 (statesV l0 l1 a2).2]) ∧ Kd.S (Kd.slice 4 Kd.bool) 23 w' w.heap.size (fun _ => True) v0_ (statesV l0 l1 a2).1 ∧ Below w.heap.size w w' := by
  obtain ⟨kv, hkv⟩ := (cause_valid_ev l0 (len63 hr0)).rounds
  have HR0 := Lib.hid hr0
  have HR1 := Lib.hid hr1
  have hu60 := Try.underlying60
  cases hval : validB l0 with
  | false =>
    rw [hval] at hkv
    have hn := Lib.hid (obs_no kv l0 l1 A0 A1 c0 c1 a2 w hr0 hc0 hr1 hkv)
    have hv : Hid (statesV l0 l1 a2 = ([], 1)) := by unfold Hid statesV; rw [hval]; rfl
    rw [hv.out]
    clear hkv hval hr0 hr1
    go_enter Try.func18, Try.ntmps18
    go_wp2_with fail
    refine hn.out.mono ?_
    rintro e w1 ⟨rfl, hb⟩
    go_wp2_with fail
    go_ret2
    exact ⟨_, rfl, Kd.S_nil _ _ _ _ _, hb⟩
  | true =>
    rw [hval] at hkv
    have hlen := valid_len hval
    have hn := Lib.hid (obs_yes kv l0 l1 A0 A1 c0 c1 a2 w hr0 hc0 hr1 hkv (by omega))
    have hfl : (freeOf l0).length ≤ 12 := Nat.le_trans (freeAt_length l0 0) hlen
    cases hsb : seenB l0.length l1 a2 with
    | false =>
      have hv : Hid (statesV l0 l1 a2 = ([], 1)) := by unfold Hid statesV; rw [hval, hsb]; rfl
      rw [hv.out]
      rw [hsb] at hn
      clear hkv hval hr0 hr1
      go_enter Try.func18, Try.ntmps18
      go_wp2_with fail
      refine hn.out.mono ?_
      rintro e w1 ⟨g, rfl, hM, hgs, hb⟩
      go_wp2_with fail
      go_ret2
      exact ⟨_, rfl, Kd.S_nil _ _ _ _ _, hb⟩
    | true =>
      have hv : Hid (statesV l0 l1 a2 = (statesB l0 l1 a2, 0)) := by unfold Hid statesV; rw [hval, hsb]; rfl
      rw [hv.out]
      have hag := Lib.hid (fun g W hM hW => agreeing_calls g l0 l1 A1 c1 a2 W hM hlen (valid_ok hval) hW (seen_bound hsb hlen))
      rw [hsb] at hn
      have hbc := Lib.hid (fun g k W hW hk => bit_calls g l0 (freeOf l0) k W hW hk (by omega))
      have hmk := Lib.hid (fun W => run_make_row' (P := Try.prog) 23 4 (.bool false) 1 Try.underlying23 info4 rfl .i64 .i64 (freeOf l0).length (by omega) (by omega) W)
      have hX := agN_S l0 l1 a2
      have HXlt := Lib.hid (agS_lt l0 l1 a2)
      have hsB : Hid (statesB l0 l1 a2 = (agS l0 l1 a2).map (stBits (freeOf l0).length)) := rfl
      have hpow : 2 ^ (freeOf l0).length < 2 ^ 13 := Nat.pow_lt_pow_right (by omega) (by omega)
      have hagl : (agS l0 l1 a2).length ≤ 2 ^ (freeOf l0).length := Nat.le_trans (List.length_filter_le _ _) (by simp)
      rw [hX] at hag
      generalize agS l0 l1 a2 = X at *
      have hXl : X.length ≤ 8192 := by omega
      clear hkv hval hr0 hr1 hX hpow hagl
      go_enter Try.func18, Try.ntmps18
      go_wp2_with fail
      refine hn.out.mono ?_
      rintro e w1 ⟨g, rfl, hM, hgs, hb⟩
      have HM := Lib.hid hM
      clear hM
      go_wp2_with fail
      refine (hag.out g w1 HM.out (Kd.C_below HR1.out hb)).mono ?_
      rintro e w2 ⟨v, rfl, hRv, hb2⟩
      have HB := Lib.hid (below_step hb hb2)
      have HM2 := Lib.hid (HM.out.below hb2)
      obtain ⟨AX, cX, rfl, hcX, hCX⟩ := Kd.R_reads hRv
      have HCX := Lib.hid hCX
      have hXm : (X.map (fun s : Nat => (s : Int))).length = X.length := by simp
      clear hRv hb hb2 hCX hcX
      rw [hXm]
      have HXM := Lib.hid hXm
      clear hXm
      go_wp2_with fail
      go_loopw [10, 29] (fun o i wr => ∃ (k : Nat), k ≤ X.length ∧ i = .int .i64 k ∧ Kd.S (Kd.slice 4 Kd.bool) 23 wr w2.heap.size (fun _ => True) o ((X.take k).map (stBits (freeOf l0).length)) ∧ Below w2.heap.size w2 wr) (fun _ i _ => X.length - (intOf i).toNat)
      case atStart => exact ⟨0, Nat.zero_le _, rfl, Kd.S_nil _ _ _ _ _, Below.refl _ _⟩
      case round =>
        obtain ⟨k, hk, rfl, hS, hB2⟩ := hrel
        by_cases hlt : k < X.length
        · obtain ⟨ad, e, hx0⟩ := Kd.at_int HCX.out (k : Int) (by omega) (by rw [HXM.out]; omega)
          cases e
          rw [rd_map, Int.toNat_natCast] at hx0
          replace hx0 := (hB2.cell (World.block_lt_of_cell? w2 _ hx0)).trans hx0
          have hsl := HXlt.out (X.getD k 0) (by simp [List.getD_eq_getElem?_getD, List.getElem?_eq_getElem hlt])
          have htk : Hid (X.take (k + 1) = X.take k ++ [X.getD k 0]) := by unfold Hid; rw [List.take_succ_eq_append_getElem hlt]; simp [List.getD_eq_getElem?_getD, List.getElem?_eq_getElem hlt]
          generalize X.getD k 0 = s at *
          obtain ⟨AM, cM, FM, dM, hblk, _, _, _, _⟩ := HM2.out.below hB2
          have hg1 : wr.cell? ⟨g, 1, none⟩ = some (.slice FM (freeOf l0).length dM) := blk_cell hblk 1
          clear hblk
          have hmk' := hmk.out
          go_wp2_with fail
          clear hmk' hg1 hx0
          obtain ⟨wo, rfl⟩ : ∃ wo : World, wo = wr := ⟨_, rfl⟩
          have hBw := below_step HB.out hB2
          have hB3 := below_alloc hBw (.cells (madeCells #[.bool false] (freeOf l0).length) 4)
          have hM3 := HM2.out.below (below_alloc hB2 (.cells (madeCells #[.bool false] (freeOf l0).length) 4))
          have HM3 := Lib.hid hM3
          have hmap0 : Hid ((X.take (k + 1)).map (stBits (freeOf l0).length) = (X.take k).map (stBits (freeOf l0).length) ++ [stBits (freeOf l0).length s]) := by unfold Hid; rw [htk.out, List.map_append, List.map_cons, List.map_nil]
          have hml : ((X.take k).map (stBits (freeOf l0).length)).length ≤ 8192 := by rw [List.length_map]; exact Nat.le_trans (List.length_take_le _ _) (by omega)
          generalize (X.take k).map (stBits (freeOf l0).length) = Z at *
          obtain ⟨B, cB, rfl⟩ := Kd.S_slice hS
          have hS3 : Kd.S (Kd.slice 4 Kd.bool) 23 (wo.alloc (.cells (madeCells #[.bool false] (freeOf l0).length) 4)) w2.heap.size (fun k_ => True ∧ some k_ ≠ (.slice (some ⟨wo.heap.size, 0, none⟩) (freeOf l0).length (freeOf l0).length : Value).ownBlock) _ _ :=
            Kd.S_elder' hS (fun k hk => by simp [Value.ownBlock] at hk; omega) (below_alloc (Below.refl _ _) _)
          have HS3 := Lib.hid hS3
          have hbs := HB.out.size
          have hb2s := hB2.size
          have hXl2 := stBits_len (freeOf l0).length s
          have HGT := Lib.hid (fun j hj => stBits_get (freeOf l0).length s j hj)
          have hfs := Lib.hid (fill_step (stBits (freeOf l0).length s))
          have hs32 : s < 2 ^ 32 := Nat.lt_of_lt_of_le hsl (Nat.pow_le_pow_right (by omega) (by omega))
          generalize hY : stBits (freeOf l0).length s = Y at *
          have HY := Lib.hid hY
          have HYL := Lib.hid hXl2
          clear hY hXl2 hM3 hS3 hS
          go_loopw [41] (fun i wq => ∃ (j : Nat), j ≤ (freeOf l0).length ∧ i = .int .i64 j ∧ Kd.R Kd.bool 4 wq w2.heap.size (fun _ => True) (.slice (some ⟨wo.heap.size, 0, none⟩) (freeOf l0).length (freeOf l0).length) (Y.take j ++ List.replicate (Y.length - j) false) ∧
            Kd.S (Kd.slice 4 Kd.bool) 23 wq w2.heap.size (fun k_ => True ∧ some k_ ≠ (.slice (some ⟨wo.heap.size, 0, none⟩) (freeOf l0).length (freeOf l0).length : Value).ownBlock) (.slice B Z.length cB) Z ∧ Below wo.heap.size wo wq) (fun i _ => (freeOf l0).length - (intOf i).toNat)
          case atStart =>
            have h0 := own_made_of' (enc := Value.bool) (d := false) wo w2.heap.size 4 (freeOf l0).length (by omega) (by omega)
            exact ⟨0, Nat.zero_le _, rfl, by rw [List.take_zero, List.nil_append, HYL.out, Nat.sub_zero]; exact Kd.R_of_own h0 (fun _ _ => trivial), HS3.out, below_alloc (Below.refl _ _) _⟩
          case round =>
            obtain ⟨j, hj, rfl, hR, hS4, hB4⟩ := hrel
            by_cases hlt2 : j < (freeOf l0).length
            · obtain ⟨⟨b0, hc1⟩, hf1, hbs2⟩ := row_cell hR j (by simp only [List.length_append, List.length_take, List.length_replicate]; have := HYL.out; omega)
              have hbit := bit_u64 s ((freeOf l0).length - 1 - j) hs32
              rw [← HGT.out j hlt2] at hbit
              have hfk := Lib.hid (hfs.out j (by have := HYL.out; omega))
              have HR := Lib.hid hR
              have HS4 := Lib.hid hS4
              clear hR hS4
              have hbj := Lib.hid (hbc.out g j wr (HM2.out.below (below_step hB2 hB4)) hlt2)
              generalize Y.getD j false = bk at *
              cases bk <;> simp only [Bool.false_eq_true, if_false, if_true] at hbit
              all_goals
                go_wp2_with fail
                refine hbj.out.mono ?_
                rintro e w' ⟨rfl, rfl⟩
                go_wp2_with fail
                go_roundw
                case rel => exact ⟨j + 1, by omega, by go_num, by rw [← hfk.out]; exact Kd.R_putn HR.out (j : Int) _, Kd.S_far HS4.out (fun k hk => by have := hk.2; simp [Value.ownBlock] at this; exact this) _, below_set hB4 (Nat.le_refl _)⟩
                case measure => simp [intOf]; omega
            · obtain rfl : j = (freeOf l0).length := by omega
              rw [show Y.take (freeOf l0).length ++ List.replicate (Y.length - (freeOf l0).length) false = Y from by rw [← HYL.out, List.take_length, Nat.sub_self]; simp] at hR
              have HR := Lib.hid hR
              have HS4 := Lib.hid hS4
              have hne : ∀ k_, some k_ = (.slice (some ⟨wo.heap.size, 0, none⟩) (freeOf l0).length (freeOf l0).length : Value).ownBlock → True ∧ some k_ ≠ (.slice B Z.length cB : Value).ownBlock := fun k_ h1 => ⟨trivial, fun h2 => ((Kd.S_R hS4).1 k_ h2.symm).2 h1⟩
              have HNE := Lib.hid hne
              have hB5 := below_step hB2 hB4
              have HB5 := Lib.hid hB5
              clear hR hS4 hne hB4 hB5
              go_wp2_with (at_builtin; refine Kd.S_append (Kd.slice 4 Kd.bool) (w0 := w2) w2.heap.size rfl (.tmp 55) (.tmp 57) 32 23 (.slice none 0 0) 24 rfl Try.underlying32 info23 rfl (by decide) (by omega) _ Z Y [.slice (some ⟨wo.heap.size, 0, none⟩) (freeOf l0).length (freeOf l0).length] (fun _ => True) (fun k_ => some k_ = (.slice (some ⟨wo.heap.size, 0, none⟩) (freeOf l0).length (freeOf l0).length : Value).ownBlock) rfl (by first | rfl | go_simp) ?aP HNE.out ?aF ?aO ?aB ?aS ?aL ?_; (case aP => exact Kd.M_row (Kd.R_tight rfl HR.out)); (case aF => exact fun _ _ => trivial); (case aO => exact Kd.S_mono HS4.out (fun k_ hk => ⟨trivial, fun e => hk.2 e⟩)); (case aB => exact HB5.out); (case aS => exact below_size HB5.out); (case aL => omega); intro v2 w5 ho hb5 hg hat; have HK := Lib.hid (And.intro hb5 ho); have HG := Lib.hid (And.intro hg hat); clear hb5 ho hg hat)
              go_roundw
              case rel => exact ⟨k + 1, by omega, by go_num, by rw [hmap0.out]; exact HK.out.2, HK.out.1⟩
              case measure => simp [intOf]; omega
        · obtain rfl : k = X.length := by omega
          rw [List.take_length] at hS
          have hS' := Kd.S_lower hS HB.out.size
          go_wp2_with fail
          go_ret2
          exact ⟨_, rfl, by rw [hsB.out]; exact hS', below_step HB.out hB2⟩
def cause_States.f (l0 : List S44) (l1 : List S48) (a2 : Int) : Option ((List (List Bool)) × Int) := some (statesV l0 l1 a2)
theorem cause_States.calls (A0 : Option Addr) (c0 : Nat) (l0 : List S44) (A1 : Option Addr) (c1 : Nat) (l1 : List S48) (a2 : Int) (r1 : List (List Bool)) (r2 : Int) (w : World) (hr0 : Kd.C k44 w A0 l0.length l0) (hc0 : l0.length ≤ c0) (hr1 : Kd.C k48 w A1 l1.length l1) (hc1 : l1.length ≤ c1) (h : cause_States.f l0 l1 a2 = some (r1, r2)) :
    Calls Try.prog 18 #[.slice A0 l0.length c0, .slice A1 l1.length c1, .int .i64 a2] w fun e w' => ∃ v0_ : Value, e = .returned (.tuple #[v0_, .int .i64 r2]) ∧ Kd.S (Kd.slice 4 Kd.bool) 23 w' w.heap.size (fun _ => True) v0_ r1 ∧ Below w.heap.size w w' := by
  have hs := states_calls A0 c0 l0 A1 c1 l1 a2 w hr0 hc0 hr1
  have e := Option.some.inj h
  rw [e] at hs
  exact hs
end Go.Proofs.Ytjdhnhfglpogmaa.P
/- cause.Blame: who is to blame. -/
set_option linter.unusedSimpArgs false
set_option linter.unusedVariables false
namespace Go.Proofs.Ytjdhnhfglpogmaa.P
open Go.RowKit Go.Proofs.YtjdhnhfglpogmaaW.PrintWords Go.Proofs.YtjdhnhfglpogmaaW.PrintLast Go.Proofs.YtjdhnhfglpogmaaW.PrintMore

/-- s without the bits of m. -/
def clearN (s m : Nat) : Nat := s ^^^ (s &&& m)
theorem clearN_bit (s m j : Nat) : (clearN s m).testBit j = (s.testBit j && !(m.testBit j)) := by
  unfold clearN
  rw [Nat.testBit_xor, Nat.testBit_and]
  cases s.testBit j <;> cases m.testBit j <;> rfl
theorem clearN_lt (s m n : Nat) (h : s < 2 ^ n) : clearN s m < 2 ^ n := Nat.xor_lt_two_pow h (Nat.lt_of_le_of_lt Nat.and_le_left h)
theorem andNot_u64 (s m : Nat) (hs : s < 2 ^ 32) (hm : m < 2 ^ 32) : bits .andNot .u64 (s : Int) (m : Int) = ((clearN s m : Nat) : Int) := by
  have h1 : (BitVec.ofNat 64 s &&& ~~~BitVec.ofNat 64 m).toNat = clearN s m := by
    apply Nat.eq_of_testBit_eq
    intro j
    rw [clearN_bit, BitVec.testBit_toNat, BitVec.getLsbD_and, BitVec.getLsbD_not, BitVec.getLsbD_ofNat, BitVec.getLsbD_ofNat]
    by_cases hj : j < 64
    · simp [hj]
    · have : s.testBit j = false := Nat.testBit_lt_two_pow (Nat.lt_of_lt_of_le hs (Nat.pow_le_pow_right (by omega) (by omega)))
      simp [hj, this]
  have h2 := clearN_lt s m 32 hs
  simp only [bits, BitVec.ofInt_natCast]
  rw [show (BitVec.ofNat IntKind.u64.bits s &&& ~~~BitVec.ofNat IntKind.u64.bits m).toNat = clearN s m from h1]
  exact u64_32 _ (by omega) (by omega)

/-- Would there be no defect without the faults of a party, in a state? -/
def blB (l : List S44) (defect : Nat) (mask s : Nat) : Bool :=
  (valN l (initN (freeOf l) s (freeOf l).length) l.length).testBit defect && !((valN l (initN (freeOf l) (clearN s mask) (freeOf l).length) l.length).testBit defect)
def maskOf (l : List S44) (p : Int) : Nat := maskN l (freeOf l) p (freeOf l).length
def cntB (l : List S44) (X : List Nat) (defect : Nat) (p : Int) : Nat := (X.filter (blB l defect (maskOf l p))).length
def sureB (l : List S44) (X : List Nat) (defect : Nat) (p : Int) : Bool := decide (maskOf l p ≠ 0) && decide (cntB l X defect p = X.length)
def maybeB (l : List S44) (X : List Nat) (defect : Nat) (p : Int) : Bool := decide (maskOf l p ≠ 0) && decide (0 < cntB l X defect p)
/-- The parties of the first k of which something holds. -/
def partyL (b : Int → Bool) (k : Nat) : List Int := ((List.range k).map (fun j : Nat => (j : Int) + 1)).filter b
theorem partyL_succ (b : Int → Bool) (k : Nat) : partyL b (k + 1) = partyL b k ++ (if b ((k : Int) + 1) then [(k : Int) + 1] else []) := by
  simp only [partyL, List.range_succ, List.map_append, List.map_cons, List.map_nil, List.filter_append, List.filter_cons, List.filter_nil]
theorem partyL_len (b : Int → Bool) (k : Nat) : (partyL b k).length ≤ k := by
  unfold partyL
  exact Nat.le_trans (List.length_filter_le _ _) (by simp)
def blameV (l : List S44) (seen : List S48) (day defect : Int) : List Int × List Int × Int :=
  if validB l && seenB l.length seen day && (decide (0 ≤ defect) && decide (defect < (l.length : Int))) then
    (if (agS l seen day).length = 0 then ([], [], 4) else (partyL (sureB l (agS l seen day) defect.toNat) 64, partyL (maybeB l (agS l seen day) defect.toNat) 64, 0))
  else ([], [], 1)

theorem two_rows {W w1 : World} {base : Nat} {vs vm v1 : Value} {Y : List Int} (hm : Kd.R (Kd.int .i64) 3 W base (fun k => some k ≠ vs.ownBlock) vm Y) (hg : W.grownBy w1 vs.ownBlock) (hat : v1.ownBlock = vs.ownBlock ∨ ∃ b, v1.ownBlock = some b ∧ W.heap.size ≤ b) :
    Kd.R (Kd.int .i64) 3 w1 base (fun k => some k ≠ v1.ownBlock) vm Y := by
  have h1 := Kd.R_grown hm hg (fun k hk => hk)
  have hlt := Kd.R_lt hm
  refine Kd.R_mono (Kd.R_tight2 rfl h1) (fun k hk => ?_)
  rcases hat with h | ⟨b, h, hb⟩
  · rw [h]; exact hk.2
  · rw [h]
    intro e
    have := hlt k hk.1.symm
    cases e
    omega
theorem rows_new {W : World} {base : Nat} {vm : Value} {Y : List Int} {ok : Nat → Prop} (hm : Kd.R (Kd.int .i64) 3 W base ok vm Y) : ∀ k, W.heap.size ≤ k → some k ≠ vm.ownBlock := fun k hk e => by
  have := Kd.R_lt hm k e.symm
  omega

set_option maxRecDepth 100000 in
set_option maxHeartbeats 4000000 in
theorem blame_calls (A0 : Option Addr) (c0 : Nat) (l0 : List S44) (A1 : Option Addr) (c1 : Nat) (l1 : List S48) (a2 a3 : Int) (w : World) (hr0 : Kd.C k44 w A0 l0.length l0) (hc0 : l0.length ≤ c0) (hr1 : Kd.C k48 w A1 l1.length l1) :
    Calls Try.prog 21 #[.slice A0 l0.length c0, .slice A1 l1.length c1, .int .i64 a2, .int .i64 a3] w fun e w' => ∃ v0_ v1_ : Value, e = .returned (.tuple #[v0_, v1_, .int .i64 (blameV l0 l1 a2 a3).2.2]) ∧ Kd.R (Kd.int .i64) 3 w' w.heap.size (fun k_ => some k_ ≠ (v1_ : Value).ownBlock) v0_ (blameV l0 l1 a2 a3).1 ∧ Kd.R (Kd.int .i64) 3 w' w.heap.size (fun k_ => some k_ ≠ (v0_ : Value).ownBlock) v1_ (blameV l0 l1 a2 a3).2.1 ∧ Below w.heap.size w w' := by
  obtain ⟨kv, hkv⟩ := (cause_valid_ev l0 (len63 hr0)).rounds
  have HR0 := Lib.hid hr0
  have HR1 := Lib.hid hr1
  have hu60 := Try.underlying60
  cases hval : validB l0 with
  | false =>
    rw [hval] at hkv
    have hn := Lib.hid (obs_no kv l0 l1 A0 A1 c0 c1 a2 w hr0 hc0 hr1 hkv)
    have hv : Hid (blameV l0 l1 a2 a3 = ([], [], 1)) := by unfold Hid blameV; rw [hval]; rfl
    rw [hv.out]
    clear hkv hval hr0 hr1
    go_enter Try.func21, Try.ntmps21
    go_wp2_with fail
    refine hn.out.mono ?_
    rintro e w1 ⟨rfl, hb⟩
    go_wp2_with fail
    go_ret3
    exact ⟨_, _, rfl, Kd.R_nil _ _ _ _ _, Kd.R_nil _ _ _ _ _, hb⟩
  | true =>
    rw [hval] at hkv
    have hlen := valid_len hval
    have hn := Lib.hid (obs_yes kv l0 l1 A0 A1 c0 c1 a2 w hr0 hc0 hr1 hkv (by omega))
    have hfl : (freeOf l0).length ≤ 12 := Nat.le_trans (freeAt_length l0 0) hlen
    cases hsb : seenB l0.length l1 a2 with
    | false =>
      have hv : Hid (blameV l0 l1 a2 a3 = ([], [], 1)) := by unfold Hid blameV; rw [hval, hsb]; rfl
      rw [hv.out]
      rw [hsb] at hn
      clear hkv hval hr0 hr1
      go_enter Try.func21, Try.ntmps21
      go_wp2_with fail
      refine hn.out.mono ?_
      rintro e w1 ⟨g, rfl, hM, hgs, hb⟩
      go_wp2_with fail
      go_ret3
      exact ⟨_, _, rfl, Kd.R_nil _ _ _ _ _, Kd.R_nil _ _ _ _ _, hb⟩
    | true =>
      rw [hsb] at hn
      by_cases hd0 : a3 < 0
      · have hv : Hid (blameV l0 l1 a2 a3 = ([], [], 1)) := by unfold Hid blameV; rw [decide_eq_false (show ¬ 0 ≤ a3 by omega)]; simp
        rw [hv.out]
        have hdb : decide (a3 < 0) = true := decide_eq_true hd0
        clear hkv hval hr0 hr1 hd0
        go_enter Try.func21, Try.ntmps21
        go_wp2_with fail
        refine hn.out.mono ?_
        rintro e w1 ⟨g, rfl, hM, hgs, hb⟩
        go_wp2_with fail
        go_ret3
        exact ⟨_, _, rfl, Kd.R_nil _ _ _ _ _, Kd.R_nil _ _ _ _ _, hb⟩
      · by_cases hd1 : (l0.length : Int) ≤ a3
        · have hv : Hid (blameV l0 l1 a2 a3 = ([], [], 1)) := by unfold Hid blameV; rw [decide_eq_false (show ¬ a3 < (l0.length : Int) by omega)]; simp
          rw [hv.out]
          have hdb0 : decide (a3 < 0) = false := decide_eq_false hd0
          have hdb : decide ((l0.length : Int) ≤ a3) = true := decide_eq_true hd1
          clear hkv hval hr0 hr1 hd0
          go_enter Try.func21, Try.ntmps21
          go_wp2_with fail
          refine hn.out.mono ?_
          rintro e w1 ⟨g, rfl, hM, hgs, hb⟩
          go_wp2_with fail
          go_ret3
          exact ⟨_, _, rfl, Kd.R_nil _ _ _ _ _, Kd.R_nil _ _ _ _ _, hb⟩
        · obtain ⟨d, rfl⟩ := Int.eq_ofNat_of_zero_le (show 0 ≤ a3 by omega)
          have hdl : d < l0.length := by omega
          have hag := Lib.hid (fun g W hM hW => agreeing_calls g l0 l1 A1 c1 a2 W hM hlen (valid_ok hval) hW (seen_bound hsb hlen))
          have hv : Hid (blameV l0 l1 a2 d = if (agS l0 l1 a2).length = 0 then ([], [], 4) else (partyL (sureB l0 (agS l0 l1 a2) d) 64, partyL (maybeB l0 (agS l0 l1 a2) d) 64, 0)) := by
            unfold Hid blameV
            rw [hval, hsb, decide_eq_true (show 0 ≤ (d : Int) by omega), decide_eq_true (show (d : Int) < (l0.length : Int) by omega), Int.toNat_natCast]
            rfl
          have hvc := Lib.hid (fun s g W hs hW => values_calls g l0 (freeOf l0) s W hW hlen hfl hs (fun i hi => ⟨(freeOf_bound l0 i hi).1, by have := (freeOf_bound l0 i hi).2; omega⟩) (valid_ok hval))
          have hmc := Lib.hid (fun g p W hW => mask_calls g l0 (freeOf l0) p W hW hlen hfl (fun i hi => freeOf_bound l0 i hi))
          have hml := Lib.hid (fun p => maskN_lt l0 (freeOf l0) p hfl (freeOf l0).length (Nat.le_refl _))
          have hX := agN_S l0 l1 a2
          have HXlt := Lib.hid (agS_lt l0 l1 a2)
          have hpow : 2 ^ (freeOf l0).length < 2 ^ 13 := Nat.pow_lt_pow_right (by omega) (by omega)
          have hagl : (agS l0 l1 a2).length ≤ 2 ^ (freeOf l0).length := Nat.le_trans (List.length_filter_le _ _) (by simp)
          have hvl := Lib.hid (fun s => valN_lt l0 (initN (freeOf l0) s (freeOf l0).length) (initN_lt _ _ (fun i hi => ⟨(freeOf_bound l0 i hi).1, by have := (freeOf_bound l0 i hi).2; omega⟩) _ (Nat.le_refl _)) l0.length hlen)
          rw [hX] at hag
          rw [hv.out]
          generalize agS l0 l1 a2 = X at *
          have hXl : X.length ≤ 8192 := by omega
          clear hkv hval hr0 hr1 hX hpow hagl hd0 hd1 hv
          by_cases hX0 : X.length = 0
          · rw [if_pos hX0]
            go_enter Try.func21, Try.ntmps21
            go_wp2_with fail
            refine hn.out.mono ?_
            rintro e w1 ⟨g, rfl, hM, hgs, hb⟩
            have HM := Lib.hid hM
            clear hM
            go_wp2_with fail
            refine (hag.out g w1 HM.out (Kd.C_below HR1.out hb)).mono ?_
            rintro e w2 ⟨v, rfl, hRv, hb2⟩
            have HB := Lib.hid (below_step hb hb2)
            obtain ⟨AX, cX, rfl⟩ := Kd.R_slice hRv
            have hXm : (X.map (fun s : Nat => (s : Int))).length = 0 := by simp [hX0]
            rw [hXm]
            clear hXm hRv hb hb2
            go_wp2_with fail
            go_ret3
            exact ⟨_, _, rfl, Kd.R_nil _ _ _ _ _, Kd.R_nil _ _ _ _ _, HB.out⟩
          · rw [if_neg hX0]
            go_enter Try.func21, Try.ntmps21
            go_wp2_with fail
            refine hn.out.mono ?_
            rintro e w1 ⟨g, rfl, hM, hgs, hb⟩
            have HM := Lib.hid hM
            clear hM
            go_wp2_with fail
            refine (hag.out g w1 HM.out (Kd.C_below HR1.out hb)).mono ?_
            rintro e w2 ⟨v, rfl, hRv, hb2⟩
            have HB := Lib.hid (below_step hb hb2)
            have HM2 := Lib.hid (HM.out.below hb2)
            obtain ⟨AX, cX, rfl, hcX, hCX⟩ := Kd.R_reads hRv
            have HCX := Lib.hid hCX
            have hXm : (X.map (fun s : Nat => (s : Int))).length = X.length := by simp
            clear hRv hb hb2 hCX hcX
            rw [hXm]
            have HXM := Lib.hid hXm
            have hXb : ((X.length : Int) == 0) = false := beq_eq_false_iff_ne.2 (by omega)
            have hXp : 0 < X.length := by omega
            clear hXm hX0
            go_wp2_with fail
            go_loopw [8, 9, 14] (fun vs vm i wr => ∃ (k : Nat), k ≤ 64 ∧ i = .int .i64 ((k : Int) + 1) ∧ Kd.R (Kd.int .i64) 3 wr w2.heap.size (fun k_ => some k_ ≠ vm.ownBlock) vs (partyL (sureB l0 X d) k) ∧ Kd.R (Kd.int .i64) 3 wr w2.heap.size (fun k_ => some k_ ≠ vs.ownBlock) vm (partyL (maybeB l0 X d) k) ∧ Below w2.heap.size w2 wr) (fun _ _ i _ => 65 - (intOf i).toNat)
            case atStart => exact ⟨0, Nat.zero_le _, rfl, Kd.R_nil _ _ _ _ _, Kd.R_nil _ _ _ _ _, Below.refl _ _⟩
            case round =>
              obtain ⟨k, hk, rfl, hRs, hRm, hB2⟩ := hrel
              by_cases hlt : k < 64
              · have hss := partyL_succ (sureB l0 X d) k
                have hsm := partyL_succ (maybeB l0 X d) k
                have hls := partyL_len (sureB l0 X d) k
                have hlm := partyL_len (maybeB l0 X d) k
                have hsu : sureB l0 X d ((k : Int) + 1) = (decide (maskOf l0 ((k : Int) + 1) ≠ 0) && decide ((X.filter (blB l0 d (maskOf l0 ((k : Int) + 1)))).length = X.length)) := rfl
                have hma : maybeB l0 X d ((k : Int) + 1) = (decide (maskOf l0 ((k : Int) + 1) ≠ 0) && decide (0 < (X.filter (blB l0 d (maskOf l0 ((k : Int) + 1)))).length)) := rfl
                have hmk := hml.out ((k : Int) + 1)
                have hmcall := Lib.hid (hmc.out g ((k : Int) + 1) wr (HM2.out.below hB2))
                rw [hsu] at hss
                rw [hma] at hsm
                generalize partyL (sureB l0 X d) k = Ls at *
                generalize partyL (maybeB l0 X d) k = Lm at *
                unfold maskOf at hss hsm
                generalize maskN l0 (freeOf l0) ((k : Int) + 1) (freeOf l0).length = mask at *
                obtain ⟨Bs, cs, rfl⟩ := Kd.R_slice hRs
                obtain ⟨Bm, cm, rfl⟩ := Kd.R_slice hRm
                have HRs := Lib.hid hRs
                have HRm := Lib.hid hRm
                have HSS := Lib.hid hss
                have HSM := Lib.hid hsm
                clear hsu hma hss hsm hRs hRm
                by_cases hm0 : mask = 0
                · subst hm0
                  have HSS2 : Hid (partyL (sureB l0 X d) (k + 1) = Ls) := by unfold Hid; rw [HSS.out]; simp
                  have HSM2 : Hid (partyL (maybeB l0 X d) (k + 1) = Lm) := by unfold Hid; rw [HSM.out]; simp
                  go_wp2_with fail
                  refine hmcall.out.mono ?_
                  rintro e w' ⟨rfl, rfl⟩
                  go_wp2_with fail
                  go_roundw
                  case rel => exact ⟨k + 1, by omega, by go_num, by rw [HSS2.out]; exact HRs.out, by rw [HSM2.out]; exact HRm.out, hB2⟩
                  case measure => simp [intOf]; omega
                · have hmb : ((mask : Int) == 0) = false := by simp; omega
                  go_wp2_with fail
                  refine hmcall.out.mono ?_
                  rintro e w' ⟨rfl, rfl⟩
                  go_wp2_with fail
                  obtain ⟨wo, rfl⟩ : ∃ wo : World, wo = wr := ⟨_, rfl⟩
                  have HB2 := Lib.hid hB2
                  have hb2s := hB2.size
                  go_loopw [16, 56] (fun n i wq => ∃ (j : Nat), j ≤ X.length ∧ i = .int .i64 j ∧ n = .int .i64 (((X.take j).filter (blB l0 d mask)).length : Nat) ∧ Below wo.heap.size wo wq) (fun _ i _ => X.length - (intOf i).toNat)
                  case atStart => exact ⟨0, Nat.zero_le _, rfl, by simp, Below.refl _ _⟩
                  case round =>
                    obtain ⟨j, hj, rfl, rfl, hB3⟩ := hrel
                    have hcl : ((X.take j).filter (blB l0 d mask)).length ≤ j := Nat.le_trans (List.length_filter_le _ _) (List.length_take_le _ _)
                    by_cases hlt2 : j < X.length
                    · obtain ⟨ad, e, hx0⟩ := Kd.at_int HCX.out (j : Int) (by omega) (by rw [HXM.out]; omega)
                      cases e
                      rw [rd_map, Int.toNat_natCast] at hx0
                      have hB4 := below_step HB2.out hB3
                      replace hx0 := (hB4.cell (World.block_lt_of_cell? w2 _ hx0)).trans hx0
                      have hsl := HXlt.out (X.getD j 0) (by simp [List.getD_eq_getElem?_getD, List.getElem?_eq_getElem hlt2])
                      have htk : Hid (((X.take (j + 1)).filter (blB l0 d mask)).length = ((X.take j).filter (blB l0 d mask)).length + if blB l0 d mask (X.getD j 0) then 1 else 0) := by
                        unfold Hid
                        rw [List.take_succ_eq_append_getElem hlt2, List.filter_append, List.length_append]
                        simp only [List.filter_cons, List.filter_nil, List.getD_eq_getElem?_getD, List.getElem?_eq_getElem hlt2, Option.getD_some]
                        split <;> rfl
                      generalize ((X.take j).filter (blB l0 d mask)).length = N at *
                      have hbl : blB l0 d mask (X.getD j 0) = ((valN l0 (initN (freeOf l0) (X.getD j 0) (freeOf l0).length) l0.length).testBit d && !((valN l0 (initN (freeOf l0) (clearN (X.getD j 0) mask) (freeOf l0).length) l0.length).testBit d)) := rfl
                      generalize X.getD j 0 = s at *
                      rw [hbl] at htk
                      clear hbl
                      have hs32 : s < 2 ^ 32 := Nat.lt_of_lt_of_le hsl (Nat.pow_le_pow_right (by omega) (by omega))
                      have hcs := clearN_lt s mask _ hsl
                      have hv1 := Lib.hid (fun W hW => hvc.out s g W hsl hW)
                      have hv2 := Lib.hid (fun W hW => hvc.out (clearN s mask) g W hcs hW)
                      have hl1 := hvl.out s
                      have hl2 := hvl.out (clearN s mask)
                      have han := Lib.hid (andNot_u64 s mask hs32 (by omega))
                      generalize valN l0 (initN (freeOf l0) s (freeOf l0).length) l0.length = V1 at *
                      generalize valN l0 (initN (freeOf l0) (clearN s mask) (freeOf l0).length) l0.length = V2 at *
                      have hb1 := bit_u64 V1 d (by omega)
                      have hb2 := bit_u64 V2 d (by omega)
                      generalize V1.testBit d = t1 at *
                      generalize V2.testBit d = t2 at *
                      cases t1 <;> simp only [Bool.false_eq_true, if_false, if_true] at hb1
                      · go_wp2_with fail
                        refine (hv1.out wr (HM2.out.below hB4)).mono ?_
                        rintro e w5 ⟨rfl, hb5⟩
                        go_wp2_with fail
                        go_roundw
                        case rel => exact ⟨j + 1, by omega, by go_num, by rw [htk.out]; simp, below_step hB3 hb5⟩
                        case measure => simp [intOf]; omega
                      · have han' := han.out
                        cases t2 <;> simp only [Bool.false_eq_true, if_false, if_true] at hb2
                        all_goals
                          go_wp2_with fail
                          refine (hv1.out wr (HM2.out.below hB4)).mono ?_
                          rintro e w5 ⟨rfl, hb5⟩
                          go_wp2_with fail
                          refine (hv2.out w5 (HM2.out.below (below_step hB4 hb5))).mono ?_
                          rintro e w6 ⟨rfl, hb6⟩
                          go_wp2_with fail
                          go_roundw
                          case rel => exact ⟨j + 1, by omega, by go_num, by rw [htk.out]; simp, below_step hB3 (below_step hb5 hb6)⟩
                          case measure => simp [intOf]; omega
                    · obtain rfl : j = X.length := by omega
                      rw [List.take_length] at hcl ⊢
                      have HB4 := Lib.hid (below_step HB2.out hB3)
                      have HRs3 := Lib.hid (Kd.R_below HRs.out hB3)
                      have HRm3 := Lib.hid (Kd.R_below HRm.out hB3)
                      clear hB3
                      generalize (X.filter (blB l0 d mask)).length = N at *
                      by_cases hN : N = X.length
                      · have HSS2 : Hid (partyL (sureB l0 X d) (k + 1) = Ls ++ [(k : Int) + 1]) := by unfold Hid; rw [HSS.out, hN]; simp [hm0]
                        have HSM2 : Hid (partyL (maybeB l0 X d) (k + 1) = Lm ++ [(k : Int) + 1]) := by unfold Hid; rw [HSM.out, hN, decide_eq_true (show mask ≠ 0 from hm0), decide_eq_true hXp]; rfl
                        have hb1 : ((N : Int) == (X.length : Int)) = true := beq_iff_eq.2 (by omega)
                        have hb1' : (N == X.length) = true := beq_iff_eq.2 hN
                        have hb2 : decide (0 < N) = true := decide_eq_true (by omega)
                        have hb2' : decide (0 < (N : Int)) = true := decide_eq_true (by omega)
                        clear hN
                        go_wp2_with (first | (at_builtin; refine Kd.R_append (Kd.int .i64) (w0 := w2) w2.heap.size rfl (.tmp 85) (.tmp 87) 36 3 (.int .i64 0) 8 rfl Try.underlying36 info3 rfl (by decide) (by omega) _ Ls ((k : Int) + 1) [.int .i64 ((k : Int) + 1)] (fun k_ => some k_ ≠ (.slice Bm Lm.length cm : Value).ownBlock) (fun _ => False) rfl (by first | rfl | go_simp) ?aP (fun _ hk => hk.elim) ?aF ?aO ?aB ?aS ?aL ?_; (case aP => exact rfl); (case aF => exact rows_new HRm3.out); (case aO => exact HRs3.out); (case aB => exact HB4.out); (case aS => exact below_size HB4.out); (case aL => omega); intro v2 w5 ho hb5 hg hat; obtain ⟨Bs2, cs2, rfl⟩ := Kd.R_slice ho; simp only [List.length_append, List.length_cons, List.length_nil, Nat.zero_add] at ho hat; have HRs4 := Lib.hid ho; have HB5 := Lib.hid hb5; have HRm4 := Lib.hid (two_rows HRm3.out hg hat); clear ho hb5 hg hat) | (at_builtin; refine Kd.R_append (Kd.int .i64) (w0 := w2) w2.heap.size rfl (.tmp 91) (.tmp 93) 36 3 (.int .i64 0) 8 rfl Try.underlying36 info3 rfl (by decide) (by omega) _ Lm ((k : Int) + 1) [.int .i64 ((k : Int) + 1)] (fun k_ => some k_ ≠ (.slice Bs2 (Ls.length + 1) cs2 : Value).ownBlock) (fun _ => False) rfl (by first | rfl | go_simp) ?aP (fun _ hk => hk.elim) ?aF ?aO ?aB ?aS ?aL ?_; (case aP => exact rfl); (case aF => exact rows_new HRs4.out); (case aO => exact HRm4.out); (case aB => exact HB5.out); (case aS => exact below_size HB5.out); (case aL => omega); intro v3 w7 ho hb7 hg hat; have HRm5 := Lib.hid ho; have HB7 := Lib.hid hb7; have HRs5 := Lib.hid (two_rows HRs4.out hg hat); clear ho hb7 hg hat))
                        go_roundw
                        case rel => exact ⟨k + 1, by omega, by go_num, by rw [HSS2.out]; exact HRs5.out, by rw [HSM2.out]; exact HRm5.out, HB7.out⟩
                        case measure => simp [intOf]; omega
                      · have HSS2 : Hid (partyL (sureB l0 X d) (k + 1) = Ls) := by unfold Hid; rw [HSS.out]; simp [hN]
                        have hb1 : ((N : Int) == (X.length : Int)) = false := beq_eq_false_iff_ne.2 (by omega)
                        have hb1' : (N == X.length) = false := beq_eq_false_iff_ne.2 hN
                        by_cases hN0 : 0 < N
                        · have HSM2 : Hid (partyL (maybeB l0 X d) (k + 1) = Lm ++ [(k : Int) + 1]) := by unfold Hid; rw [HSM.out]; simp [hm0, hN0]
                          have hb2 : decide (0 < N) = true := decide_eq_true hN0
                          have hb2' : decide (0 < (N : Int)) = true := decide_eq_true (by omega)
                          clear hN hN0
                          go_wp2_with (at_builtin; refine Kd.R_append (Kd.int .i64) (w0 := w2) w2.heap.size rfl (.tmp 91) (.tmp 93) 36 3 (.int .i64 0) 8 rfl Try.underlying36 info3 rfl (by decide) (by omega) _ Lm ((k : Int) + 1) [.int .i64 ((k : Int) + 1)] (fun k_ => some k_ ≠ (.slice Bs Ls.length cs : Value).ownBlock) (fun _ => False) rfl (by first | rfl | go_simp) ?aP (fun _ hk => hk.elim) ?aF ?aO ?aB ?aS ?aL ?_; (case aP => exact rfl); (case aF => exact rows_new HRs3.out); (case aO => exact HRm3.out); (case aB => exact HB4.out); (case aS => exact below_size HB4.out); (case aL => omega); intro v3 w7 ho hb7 hg hat; have HRm5 := Lib.hid ho; have HB7 := Lib.hid hb7; have HRs5 := Lib.hid (two_rows HRs3.out hg hat); clear ho hb7 hg hat)
                          go_roundw
                          case rel => exact ⟨k + 1, by omega, by go_num, by rw [HSS2.out]; exact HRs5.out, by rw [HSM2.out]; exact HRm5.out, HB7.out⟩
                          case measure => simp [intOf]; omega
                        · have HSM2 : Hid (partyL (maybeB l0 X d) (k + 1) = Lm) := by unfold Hid; rw [HSM.out]; simp [hN0]
                          obtain rfl : N = 0 := by omega
                          clear hN hN0
                          go_wp2_with fail
                          go_roundw
                          case rel => exact ⟨k + 1, by omega, by go_num, by rw [HSS2.out]; exact HRs3.out, by rw [HSM2.out]; exact HRm3.out, HB4.out⟩
                          case measure => simp [intOf]; omega
              · obtain rfl : k = 64 := by omega
                obtain ⟨Bs, cs, rfl⟩ := Kd.R_slice hRs
                obtain ⟨Bm, cm, rfl⟩ := Kd.R_slice hRm
                have HRs := Lib.hid hRs
                have HRm := Lib.hid hRm
                clear hRs hRm
                go_wp2_with fail
                go_ret3
                exact ⟨_, _, rfl, Kd.R_lower HRs.out HB.out.size, Kd.R_lower HRm.out HB.out.size, below_step HB.out hB2⟩
def cause_Blame.f (l0 : List S44) (l1 : List S48) (a2 : Int) (a3 : Int) : Option (List Int × List Int × Int) := some (blameV l0 l1 a2 a3)
theorem cause_Blame.calls (A0 : Option Addr) (c0 : Nat) (l0 : List S44) (A1 : Option Addr) (c1 : Nat) (l1 : List S48) (a2 : Int) (a3 : Int) (r1 : List Int) (r2 : List Int) (r3 : Int) (w : World) (hr0 : Kd.C k44 w A0 l0.length l0) (hc0 : l0.length ≤ c0) (hr1 : Kd.C k48 w A1 l1.length l1) (hc1 : l1.length ≤ c1) (h : cause_Blame.f l0 l1 a2 a3 = some (r1, r2, r3)) :
    Calls Try.prog 21 #[.slice A0 l0.length c0, .slice A1 l1.length c1, .int .i64 a2, .int .i64 a3] w fun e w' => ∃ v0_ v1_ : Value, e = .returned (.tuple #[v0_, v1_, .int .i64 r3]) ∧ Kd.R (Kd.int .i64) 3 w' w.heap.size (fun k_ => some k_ ≠ (v1_ : Value).ownBlock) v0_ r1 ∧ Kd.R (Kd.int .i64) 3 w' w.heap.size (fun k_ => some k_ ≠ (v0_ : Value).ownBlock) v1_ r2 ∧ Below w.heap.size w w' := by
  have hs := blame_calls A0 c0 l0 A1 c1 l1 a2 a3 w hr0 hc0 hr1
  have e := Option.some.inj h
  rw [e] at hs
  exact hs
end Go.Proofs.Ytjdhnhfglpogmaa.P
/- cohousinglaw36.in: whether all numbers of a list are in another one. -/
set_option linter.unusedSimpArgs false
set_option linter.unusedVariables false
namespace Go.Proofs.Ytjdhnhfglpogmaa.P
open Go Go.RowKit Go.Proofs.YtjdhnhfglpogmaaW.PrintWords Go.Proofs.YtjdhnhfglpogmaaW.PrintLast Go.Proofs.YtjdhnhfglpogmaaW.PrintMore

theorem set_contains (ks : List Int) (x y : Int) : (if ks.contains x then ks else ks ++ [x]).contains y = (ks.contains y || (y == x)) := by
  split
  · rename_i h
    by_cases e : y = x
    · subst e; rw [h]; rfl
    · simp [e]
  · by_cases e : y = x
    · subst e; simp
    · simp [e]
def inB (l m : List Int) : Bool := l.all (fun x => m.contains x)
set_option maxHeartbeats 2000000 in
theorem in_calls (A0 : Option Addr) (c0 : Nat) (l0 : List Int) (A1 : Option Addr) (c1 : Nat) (l1 : List Int) (w : World) (hr0 : Kd.C (Kd.int .i64) w A0 l0.length l0) (hr1 : Kd.C (Kd.int .i64) w A1 l1.length l1) :
    Calls Try.prog 29 #[.slice A0 l0.length c0, .slice A1 l1.length c1] w fun e w' => e = .returned (.bool (inB l0 l1)) ∧ Below w.heap.size w w' := by
  have HR0 := Lib.hid hr0
  have HR1 := Lib.hid hr1
  have hl0 : l0.length ≤ 9223372036854775807 := hr0.2.1
  have hl1 : l1.length ≤ 9223372036854775807 := hr1.2.1
  clear hr0 hr1
  have hmm := @run_makeMap Try.prog
  have hlk : ∀ (W : World) (ks : List Int) (x : Int), IntSet W w.heap.size ks → (Instr.lookup 53 (.map (some w.heap.size)) (.int .i64 x) false).run Try.prog W = .ok (.bool (ks.contains x)) W := fun W ks x h =>
    run_lookup_set Try.underlying53 Try.underlying3 (fun w => Try.zeroValue4 w) h x
  have HLK := Lib.hid hlk
  clear hlk
  go_enter Try.func29, Try.ntmps29
  go_wp2_with fail
  clear hmm
  go_loopw [13] (fun i wr => ∃ (k : Nat) (ks : List Int), k ≤ l1.length ∧ i = .int .i64 k ∧ IntSet wr w.heap.size ks ∧ Hid (∀ y, ks.contains y = (l1.take k).contains y) ∧ Below w.heap.size w wr) (fun i _ => l1.length - (intOf i).toNat)
  case atStart => exact ⟨0, [], Nat.zero_le _, rfl, IntSet.new w, fun y => by simp, below_alloc (Below.refl _ _) _⟩
  case round =>
    obtain ⟨k, ks, hk, rfl, hset, hks, hB⟩ := hrel
    by_cases hlt : k < l1.length
    · obtain ⟨ad, e, hx0⟩ := Kd.at_int HR1.out (k : Int) (by omega) (by omega)
      cases e
      simp only [Int.toNat_natCast] at hx0
      replace hx0 := (hB.cell (World.block_lt_of_cell? w _ hx0)).trans hx0
      have htk : Hid (l1.take (k + 1) = l1.take k ++ [rd l1 k]) := by unfold Hid; rw [List.take_succ_eq_append_getElem hlt]; simp [rd, List.getD_eq_getElem?_getD, List.getElem?_eq_getElem hlt]
      generalize rd l1 (k : Int) = x at *
      have HSET := Lib.hid hset
      clear hset
      go_wp2_with (at_mapUpdate; refine wpList_update_set rfl _ _ _ rfl Try.underlying53 Try.underlying3 rfl HSET.out _ rfl rfl ?_; intro W2 hm2 hg2; have HK := Lib.hid (And.intro hm2 (hB.grown hg2 hB.size (fun k_ hk_ => by cases hk_; exact Nat.le_refl _))); clear hm2 hg2)
      go_roundw
      case rel => exact ⟨k + 1, _, by omega, by go_num, HK.out.1, fun y => by rw [set_contains, hks.out, htk.out, Bool.eq_iff_iff]; simp, HK.out.2⟩
      case measure => simp [intOf]; omega
    · obtain rfl : k = l1.length := by omega
      have HKS : Hid (∀ y, ks.contains y = l1.contains y) := fun y => by rw [hks.out, List.take_length]
      clear hks
      go_wp2_with fail
      go_loopw [22] (fun i wq => ∃ (j : Nat), j ≤ l0.length ∧ i = .int .i64 j ∧ Hid ((l0.take j).all (fun x => l1.contains x) = true) ∧ wr = wq) (fun i _ => l0.length - (intOf i).toNat)
      case atStart => exact ⟨0, Nat.zero_le _, rfl, rfl, rfl⟩
      case round =>
        obtain ⟨j, hj, rfl, hall, rfl⟩ := hrel
        by_cases hlt2 : j < l0.length
        · obtain ⟨ad, e, hx0⟩ := Kd.at_int HR0.out (j : Int) (by omega) (by omega)
          cases e
          simp only [Int.toNat_natCast] at hx0
          replace hx0 := (hB.cell (World.block_lt_of_cell? w _ hx0)).trans hx0
          have htk : Hid (l0.take (j + 1) = l0.take j ++ [rd l0 j]) := by unfold Hid; rw [List.take_succ_eq_append_getElem hlt2]; simp [rd, List.getD_eq_getElem?_getD, List.getElem?_eq_getElem hlt2]
          have hmem : Hid (rd l0 j ∈ l0) := by unfold Hid; simp [rd, List.getD_eq_getElem?_getD, List.getElem?_eq_getElem hlt2]
          generalize rd l0 (j : Int) = x at *
          have hlx := HLK.out wr ks x hset
          rw [HKS.out x] at hlx
          cases hc : l1.contains x with
          | false =>
            rw [hc] at hlx
            have HH : Hid (inB l0 l1 = false) := by unfold Hid inB; rw [List.all_eq_false]; exact ⟨x, hmem.out, by rw [hc]; simp⟩
            clear hc
            go_wp2_with fail
            go_ret
            exact ⟨by rw [HH.out]; rfl, hB⟩
          | true =>
            rw [hc] at hlx
            have HA : Hid ((l0.take (j + 1)).all (fun x => l1.contains x) = true) := by unfold Hid; rw [htk.out, List.all_append, hall.out]; simp only [List.all_cons, List.all_nil, hc]; rfl
            clear hc
            go_wp2_with fail
            go_roundw
            case rel => exact ⟨j + 1, by omega, by go_num, HA, trivial⟩
            case measure => simp [intOf]; omega
        · have HH : Hid (inB l0 l1 = true) := by
            have h := hall.out
            rw [List.take_of_length_le (by omega)] at h
            exact h
          go_wp2_with fail
          go_ret
          exact ⟨by rw [HH.out]; rfl, hB⟩
def cohousinglaw36_in.f (l0 : List Int) (l1 : List Int) : Option (Bool) := some (inB l0 l1)
theorem cohousinglaw36_in.calls (A0 : Option Addr) (c0 : Nat) (l0 : List Int) (A1 : Option Addr) (c1 : Nat) (l1 : List Int) (r : Bool) (w : World) (hr0 : Kd.C (Kd.int .i64) w A0 l0.length l0) (hc0 : l0.length ≤ c0) (hr1 : Kd.C (Kd.int .i64) w A1 l1.length l1) (hc1 : l1.length ≤ c1) (h : cohousinglaw36_in.f l0 l1 = some r) :
    Calls Try.prog 29 #[.slice A0 l0.length c0, .slice A1 l1.length c1] w fun e w' => e = .returned (.bool r) ∧ Below w.heap.size w w' := by
  have hs := in_calls A0 c0 l0 A1 c1 l1 w hr0 hr1
  have e := Option.some.inj h
  rw [e] at hs
  exact hs
end Go.Proofs.Ytjdhnhfglpogmaa.P
