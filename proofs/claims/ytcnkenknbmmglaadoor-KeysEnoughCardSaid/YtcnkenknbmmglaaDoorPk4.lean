/- What Renew does to keys: KeysHistory's core. -/
import Derived.Test.YtcnkenknbmmglaaDoorPk3
import Derived.Test.YtcnkenknbmmglaaDoorXrenew
set_option linter.unusedSimpArgs false
set_option linter.unusedVariables false
namespace Go.Proofs.YtcnkenknbmmglaaDoor.P
open Go Go.RowKit Go.Proofs.YtcnkenknbmmglaaDoorW.PrintWords Go.Proofs.YtcnkenknbmmglaaDoorW.PrintLast Go.Proofs.YtcnkenknbmmglaaDoorW.PrintMore

def insK (l : List S49) (x : S49) : List S49 := l.take (atV l x) ++ x :: l.drop (atV l x)
theorem insK_len (l : List S49) (x : S49) : (insK l x).length = l.length + 1 := by
  have := behV_le l x.f0 36524
  unfold insK atV
  rw [List.length_append, List.length_cons, List.length_take, List.length_drop]
  omega
theorem insK_mem {l : List S49} {x y : S49} : y ∈ insK l x ↔ y = x ∨ y ∈ l := by
  unfold insK
  rw [List.mem_append, List.mem_cons]
  constructor
  · rintro (h | h | h)
    · exact Or.inr (List.mem_of_mem_take h)
    · exact Or.inl h
    · exact Or.inr (List.mem_of_mem_drop h)
  · rintro (h | h)
    · exact Or.inr (Or.inl h)
    · rw [← List.take_append_drop (atV l x) l] at h
      rcases List.mem_append.1 h with h | h
      · exact Or.inl h
      · exact Or.inr (Or.inr h)
theorem keyOk_parts {x : S49} (h : keyOk x = true) : homeV x.f0 = true ∧ dayV x.f2 = true ∧ keyV x.f1 = true := by
  simp only [keyOk, Bool.and_eq_true] at h
  exact h
theorem dayV_iff {n : Int} : dayV n = true ↔ 0 ≤ n ∧ n ≤ 36524 := by simp only [dayV, Bool.and_eq_true, decide_eq_true_eq]
theorem homeV_iff {n : Int} : homeV n = true ↔ 1 ≤ n ∧ n ≤ 64 := by simp only [homeV, Bool.and_eq_true, decide_eq_true_eq]
/-- Where the new key is not too late: all keys of its household are of earlier days. -/
theorem late_iff {l : List S49} (hl : Keys l) (x : S49) : lateB l x = true ↔ ∃ y ∈ l, y.f0 = x.f0 ∧ x.f2 ≤ y.f2 := by
  obtain ⟨h1, h2⟩ := beh_split l hl.ord x.f0 36524
  have hb := behV_le l x.f0 36524
  unfold lateB atV
  constructor
  · intro h
    simp only [Bool.and_eq_true, decide_eq_true_eq, beq_iff_eq] at h
    obtain ⟨g0, g1, g2⟩ := h
    rw [rd_getK (by omega)] at g1 g2
    exact ⟨_, List.getElem_mem _, g1, g2⟩
  · rintro ⟨y, hy, g1, g2⟩
    have hyt : y ∈ l.take (behV l x.f0 36524) := by
      rw [← List.take_append_drop (behV l x.f0 36524) l] at hy
      rcases List.mem_append.1 hy with hy | hy
      · exact hy
      · refine absurd ?_ (h2 _ hy)
        have := dayV_iff.1 (keyOk_parts (hl.ok y (List.mem_of_mem_drop hy))).2.1
        exact Or.inr ⟨g1, this.2⟩
    obtain ⟨j, hj, hjy⟩ := List.mem_take_iff_getElem.1 hyt
    have hz : behV l x.f0 36524 - 1 < l.length := by omega
    have hm : l[behV l x.f0 36524 - 1] ∈ l.take (behV l x.f0 36524) := List.mem_take_iff_getElem.2 ⟨behV l x.f0 36524 - 1, by omega, rfl⟩
    have hu := h1 _ hm
    simp only [Bool.and_eq_true, decide_eq_true_eq, beq_iff_eq]
    refine ⟨by omega, ?_⟩
    rw [rd_getK hz]
    have hcase : j = behV l x.f0 36524 - 1 ∨ j < behV l x.f0 36524 - 1 := by omega
    rcases hcase with e | hlt
    · subst e
      rw [hjy]
      exact ⟨g1, g2⟩
    · have hlt2 : ltK y (l[behV l x.f0 36524 - 1]) := by
        rw [← hjy]
        exact List.pairwise_iff_getElem.1 hl.ord _ _ _ _ hlt
      generalize l[behV l x.f0 36524 - 1] = z at hlt2 hu ⊢
      unfold upTo at hu
      unfold ltK at hlt2
      omega
theorem insK_keys {l : List S49} (hl : Keys l) {x : S49} (hx : keyOk x = true) (hn : lateB l x = false) : Keys (insK l x) := by
  obtain ⟨h1, h2⟩ := beh_split l hl.ord x.f0 36524
  have hlate : ∀ y ∈ l, y.f0 = x.f0 → y.f2 < x.f2 := fun y hy e => by
    by_cases hc : x.f2 ≤ y.f2
    · have := (late_iff hl x).2 ⟨y, hy, e, hc⟩
      rw [hn] at this
      cases this
    · omega
  have hxd := dayV_iff.1 (keyOk_parts hx).2.1
  refine ⟨?_, fun y hy => ?_⟩
  · unfold insK atV
    have hp := hl.ord
    rw [← List.take_append_drop (behV l x.f0 36524) l, List.pairwise_append] at hp
    rw [List.pairwise_append, List.pairwise_cons]
    refine ⟨hp.1, ⟨fun y hy => ?_, hp.2.1⟩, fun a ha b hb => ?_⟩
    · have hu := h2 y hy
      have hok := dayV_iff.1 (keyOk_parts (hl.ok y (List.mem_of_mem_drop hy))).2.1
      unfold upTo at hu
      unfold ltK
      omega
    · rcases List.mem_cons.1 hb with rfl | hb
      · have hu := h1 a ha
        have hla := hlate a (List.mem_of_mem_take ha)
        unfold upTo at hu
        unfold ltK
        omega
      · exact hp.2.2 a ha b hb
  · rcases insK_mem.1 hy with rfl | hy
    · exact hx
    · exact hl.ok y hy
/-- The new key from its day on. -/
theorem insK_new {l : List S49} (hl : Keys l) {x : S49} (hx : keyOk x = true) (hn : lateB l x = false) {on : Int} (ho : x.f2 ≤ on) : findV (insK l x) x.f0 on = (x.f1, true) := by
  have hk := insK_keys hl hx hn
  refine find_some hk.ord (x := x) (insK_mem.2 (Or.inl rfl)) ⟨rfl, ho⟩ (fun y hy hoy => ?_)
  rcases insK_mem.1 hy with rfl | hy
  · exact Int.le_refl _
  · by_cases hc : x.f2 ≤ y.f2
    · have := (late_iff hl x).2 ⟨y, hy, hoy.1, hc⟩
      rw [hn] at this
      cases this
    · omega
theorem latest {l : List S49} (h on : Int) : (∀ y ∈ l, ¬ ofH h on y) ∨ ∃ y ∈ l, ofH h on y ∧ ∀ z ∈ l, ofH h on z → z.f2 ≤ y.f2 := by
  induction l with
  | nil => exact Or.inl (by simp)
  | cons a l ih =>
    by_cases ha : ofH h on a
    · rcases ih with ih | ⟨y, hy, h1, h2⟩
      · refine Or.inr ⟨a, List.mem_cons_self, ha, fun z hz hoz => ?_⟩
        rcases List.mem_cons.1 hz with rfl | hz
        · exact Int.le_refl _
        · exact absurd hoz (ih z hz)
      · by_cases hc : a.f2 ≤ y.f2
        · refine Or.inr ⟨y, List.mem_cons_of_mem _ hy, h1, fun z hz hoz => ?_⟩
          rcases List.mem_cons.1 hz with rfl | hz
          · exact hc
          · exact h2 z hz hoz
        · refine Or.inr ⟨a, List.mem_cons_self, ha, fun z hz hoz => ?_⟩
          rcases List.mem_cons.1 hz with rfl | hz
          · exact Int.le_refl _
          · have := h2 z hz hoz
            omega
    · rcases ih with ih | ⟨y, hy, h1, h2⟩
      · refine Or.inl (fun z hz => ?_)
        rcases List.mem_cons.1 hz with rfl | hz
        · exact ha
        · exact ih z hz
      · refine Or.inr ⟨y, List.mem_cons_of_mem _ hy, h1, fun z hz hoz => ?_⟩
        rcases List.mem_cons.1 hz with rfl | hz
        · exact absurd hoz ha
        · exact h2 z hz hoz
/-- And all else as before. -/
theorem insK_old {l : List S49} (hl : Keys l) {x : S49} (hx : keyOk x = true) (hn : lateB l x = false) {h on : Int} (ho : ¬ (h = x.f0 ∧ x.f2 ≤ on)) : findV (insK l x) h on = findV l h on := by
  have hk := insK_keys hl hx hn
  have hxo : ¬ ofH h on x := fun hc => ho ⟨hc.1.symm, hc.2⟩
  rcases latest (l := l) h on with hnone | ⟨y, hy, h1, h2⟩
  · rw [find_none hl.ord hnone, find_none hk.ord]
    intro z hz
    rcases insK_mem.1 hz with rfl | hz
    · exact hxo
    · exact hnone z hz
  · rw [find_some hl.ord hy h1 h2, find_some hk.ord (insK_mem.2 (Or.inr hy)) h1]
    intro z hz hoz
    rcases insK_mem.1 hz with rfl | hz
    · exact absurd hoz hxo
    · exact h2 z hz hoz
/-- What stands behind a renewal that went well. -/
theorem renew_ok {l : List S49} {ns : List Int} {need : Int} {v : List S28} {m : List S49} (h : renewV l ns need v = (m, 0)) (hv : ∀ y ∈ v, True) : validB l = true ∧ formedV ns need v = true ∧ lateB l (newK v) = false ∧ l.length < 1000 ∧ m = insK l (newK v) ∧ (allTry l ns (newK v) v []).2 = 0 ∧ need ≤ ((allTry l ns (newK v) v []).1.length : Int) := by
  unfold renewV at h
  by_cases h1 : (validB l && formedV ns need v) = true
  · rw [if_pos h1] at h
    rw [Bool.and_eq_true] at h1
    by_cases h2 : lateB l (newK v) = true
    · rw [if_pos h2] at h
      cases (Prod.mk.inj h).2
    · rw [if_neg h2] at h
      by_cases h3 : (allTry l ns (newK v) v []).2 = 0
      · rw [if_pos h3] at h
        by_cases h4 : ((allTry l ns (newK v) v []).1.length : Int) < need
        · rw [if_pos h4] at h
          cases (Prod.mk.inj h).2
        · rw [if_neg h4] at h
          by_cases h5 : l.length = 1000
          · rw [if_pos h5] at h
            cases (Prod.mk.inj h).2
          · rw [if_neg h5] at h
            have := valid_len h1.1
            exact ⟨h1.1, h1.2, by simpa using h2, by omega, (Prod.mk.inj h).1.symm, h3, by omega⟩
      · rw [if_neg h3] at h
        exact absurd (Prod.mk.inj h).2 h3
  · rw [if_neg h1] at h
    cases (Prod.mk.inj h).2
theorem renew_err {l : List S49} {ns : List Int} {need : Int} {v : List S28} (h : (renewV l ns need v).2 ≠ 0) : (renewV l ns need v).1 = [] := by
  unfold renewV at h ⊢
  repeat' split
  all_goals first | rfl | (exfalso; revert h; simp [*]; done)
theorem new_ok {ns : List Int} {need : Int} {v : List S28} (h : formedV ns need v = true) : keyOk (newK v) = true := by
  obtain ⟨h0, h1, h2⟩ := says_new (formed_says h).2
  unfold keyOk
  rw [h0, h1, h2]
  rfl
end Go.Proofs.YtcnkenknbmmglaaDoor.P
