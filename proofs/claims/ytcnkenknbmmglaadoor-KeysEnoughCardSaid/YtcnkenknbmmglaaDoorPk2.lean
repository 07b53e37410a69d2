/- Keys in order; the key of a household on a day, told by membership. -/
import Derived.Test.YtcnkenknbmmglaaDoorPk1
set_option linter.unusedSimpArgs false
set_option linter.unusedVariables false
namespace Go.Proofs.YtcnkenknbmmglaaDoor.P
open Go Go.RowKit Go.Proofs.YtcnkenknbmmglaaDoorW.PrintWords Go.Proofs.YtcnkenknbmmglaaDoorW.PrintLast Go.Proofs.YtcnkenknbmmglaaDoorW.PrintMore

def ltK (a b : S49) : Prop := a.f0 < b.f0 ∨ (a.f0 = b.f0 ∧ a.f2 < b.f2)
theorem cmp_lt (a b : S49) : cmpV a b < 0 ↔ ltK a b := by
  unfold cmpV ltK
  by_cases h1 : a.f0 < b.f0
  · rw [if_pos h1]; exact ⟨fun _ => Or.inl h1, fun _ => by decide⟩
  · rw [if_neg h1]
    by_cases h2 : b.f0 < a.f0
    · rw [if_pos h2]; exact ⟨fun h => absurd h (by decide), fun h => by omega⟩
    · rw [if_neg h2]
      by_cases h3 : a.f2 < b.f2
      · rw [if_pos h3]; exact ⟨fun _ => Or.inr ⟨by omega, h3⟩, fun _ => by decide⟩
      · rw [if_neg h3]
        by_cases h4 : b.f2 < a.f2
        · rw [if_pos h4]; exact ⟨fun h => absurd h (by decide), fun h => by omega⟩
        · rw [if_neg h4]; exact ⟨fun h => absurd h (by decide), fun h => by omega⟩
theorem cmp_gt (a : S49) (h on : Int) : cmpV a ⟨h, 0, on⟩ > 0 ↔ ¬ (a.f0 < h ∨ (a.f0 = h ∧ a.f2 ≤ on)) := by
  unfold cmpV
  by_cases h1 : a.f0 < h
  · rw [if_pos h1]; exact ⟨fun h => absurd h (by decide), fun h => absurd (Or.inl h1) h⟩
  · rw [if_neg h1]
    by_cases h2 : h < a.f0
    · rw [if_pos h2]; exact ⟨fun _ => by omega, fun _ => by decide⟩
    · rw [if_neg h2]
      by_cases h3 : a.f2 < on
      · rw [if_pos h3]; exact ⟨fun h => absurd h (by decide), fun h => by omega⟩
      · rw [if_neg h3]
        by_cases h4 : on < a.f2
        · rw [if_pos h4]; exact ⟨fun _ => by omega, fun _ => by decide⟩
        · rw [if_neg h4]; exact ⟨fun h => absurd h (by decide), fun h => by omega⟩
theorem ltK.trans {a b c : S49} (h : ltK a b) (k : ltK b c) : ltK a c := by unfold ltK at *; omega
/-- In order, and each key in itself right. -/
structure Keys (l : List S49) : Prop where
  ord : l.Pairwise ltK
  ok : ∀ x ∈ l, keyOk x = true
theorem kvB_iff : ∀ (l : List S49) (p : Option S49), kvB p l = true ↔ (l.Pairwise ltK ∧ (∀ x ∈ l, keyOk x = true) ∧ ∀ q, p = some q → ∀ x ∈ l, ltK q x)
  | [], p => by simp [kvB]
  | y :: l, p => by
    rw [kvB, Bool.and_eq_true, Bool.and_eq_true, kvB_iff l (some y), List.pairwise_cons]
    constructor
    · rintro ⟨h1, h2, h3, h4, h5⟩
      refine ⟨⟨h5 y rfl, h3⟩, fun x hx => ?_, fun q hq x hx => ?_⟩
      · rcases List.mem_cons.1 hx with rfl | hx
        · exact h1
        · exact h4 x hx
      · subst hq
        have hqy : ltK q y := (cmp_lt _ _).1 (of_decide_eq_true h2)
        rcases List.mem_cons.1 hx with rfl | hx
        · exact hqy
        · exact hqy.trans (h5 y rfl x hx)
    · rintro ⟨⟨h1, h2⟩, h3, h4⟩
      refine ⟨h3 y List.mem_cons_self, ?_, h2, fun x hx => h3 x (List.mem_cons_of_mem _ hx), fun q hq x hx => ?_⟩
      · cases p with
        | none => rfl
        | some q => exact decide_eq_true ((cmp_lt _ _).2 (h4 q rfl y List.mem_cons_self))
      · cases hq
        exact h1 x hx
theorem valid_iff (l : List S49) : validB l = true ↔ l.length ≤ 1000 ∧ Keys l := by
  unfold validB
  rw [Bool.and_eq_true, decide_eq_true_eq, kvB_iff]
  constructor
  · rintro ⟨h, h1, h2, _⟩
    exact ⟨h, h1, h2⟩
  · rintro ⟨h, h1, h2⟩
    exact ⟨h, h1, h2, fun q hq => by cases hq⟩
/-- Up to a household and a day. -/
def upTo (h on : Int) (x : S49) : Prop := x.f0 < h ∨ (x.f0 = h ∧ x.f2 ≤ on)
instance (h on : Int) (x : S49) : Decidable (upTo h on x) := by unfold upTo; infer_instance
theorem upTo_down {h on : Int} {x y : S49} (hxy : ltK x y) (hy : upTo h on y) : upTo h on x := by unfold upTo ltK at *; omega
/-- The search splits the list. -/
theorem beh_split (l : List S49) (hl : l.Pairwise ltK) (h on : Int) : (∀ x ∈ l.take (behV l h on), upTo h on x) ∧ (∀ x ∈ l.drop (behV l h on), ¬ upTo h on x) := by
  have key : ∀ (l : List S49), l.Pairwise ltK → ∃ r, r ≤ l.length ∧ (∀ x ∈ l.take r, upTo h on x) ∧ (∀ x ∈ l.drop r, ¬ upTo h on x) := by
    intro l
    induction l with
    | nil => intro _; exact ⟨0, Nat.le_refl _, by simp, by simp⟩
    | cons y l ih =>
      intro hp
      rw [List.pairwise_cons] at hp
      by_cases hy : upTo h on y
      · obtain ⟨r, h1, h2, h3⟩ := ih hp.2
        refine ⟨r + 1, by simp; omega, fun x hx => ?_, by simpa using h3⟩
        rw [List.take_succ_cons] at hx
        rcases List.mem_cons.1 hx with rfl | hx
        · exact hy
        · exact h2 x hx
      · refine ⟨0, Nat.zero_le _, by simp, fun x hx => ?_⟩
        rw [List.drop_zero] at hx
        rcases List.mem_cons.1 hx with rfl | hx
        · exact hy
        · exact fun hc => hy (upTo_down (hp.1 x hx) hc)
  obtain ⟨r, hr, h1, h2⟩ := key l hl
  have e : behV l h on = r := by
    unfold behV
    refine bsV_spec _ _ _ _ r (by omega) (Nat.zero_le _) hr (fun k _ hk => ?_) (fun k hk hk2 => ?_)
    · have hkl : k < l.length := by omega
      show decide _ = false
      rw [decide_eq_false_iff_not, cmp_gt, rd_getK hkl]
      exact fun hc => hc (h1 _ (List.mem_take_iff_getElem.2 ⟨k, by omega, rfl⟩))
    · show decide _ = true
      rw [decide_eq_true_eq, cmp_gt, rd_getK hk2]
      exact h2 _ (List.mem_drop_iff_getElem.2 ⟨k - r, by omega, by congr 1; omega⟩)
  rw [e]
  exact ⟨h1, h2⟩
/-- The keys of a household up to a day. -/
def ofH (h on : Int) (x : S49) : Prop := x.f0 = h ∧ x.f2 ≤ on
theorem find_none {l : List S49} (hl : l.Pairwise ltK) {h on : Int} (hn : ∀ x ∈ l, ¬ ofH h on x) : findV l h on = (0, false) := by
  obtain ⟨h1, h2⟩ := beh_split l hl h on
  unfold findV
  by_cases h0 : behV l h on = 0
  · rw [if_pos h0]
  · rw [if_neg h0]
    have hb := behV_le l h on
    have hm : l[behV l h on - 1]'(by omega) ∈ l.take (behV l h on) := List.mem_take_iff_getElem.2 ⟨behV l h on - 1, by omega, rfl⟩
    rw [rd_getK (by omega)]
    rw [if_neg]
    intro hc
    have hu := h1 _ hm
    unfold upTo at hu
    exact hn _ (List.mem_of_mem_take hm) ⟨hc, by omega⟩
/-- The latest of them is what find gives. -/
theorem find_some {l : List S49} (hl : l.Pairwise ltK) {h on : Int} {x : S49} (hx : x ∈ l) (ho : ofH h on x) (hmax : ∀ y ∈ l, ofH h on y → y.f2 ≤ x.f2) : findV l h on = (x.f1, true) := by
  obtain ⟨h1, h2⟩ := beh_split l hl h on
  have hb := behV_le l h on
  have hxt : x ∈ l.take (behV l h on) := by
    rw [← List.take_append_drop (behV l h on) l] at hx
    rcases List.mem_append.1 hx with hx | hx
    · exact hx
    · exact absurd (Or.inr ho) (h2 x hx)
  obtain ⟨j, hj, hjx⟩ := List.mem_take_iff_getElem.1 hxt
  have h0 : ¬ behV l h on = 0 := by omega
  have hz : behV l h on - 1 < l.length := by omega
  have hm : l[behV l h on - 1] ∈ l.take (behV l h on) := List.mem_take_iff_getElem.2 ⟨behV l h on - 1, by omega, rfl⟩
  have hu := h1 _ hm
  have hml := List.mem_of_mem_take hm
  unfold findV
  rw [if_neg h0, rd_getK hz]
  have hcase : j = behV l h on - 1 ∨ j < behV l h on - 1 := by omega
  rcases hcase with e | hlt
  · subst e
    rw [hjx, if_pos ho.1]
  · have hlt2 : ltK x (l[behV l h on - 1]) := by
      rw [← hjx]
      exact List.pairwise_iff_getElem.1 hl _ _ _ _ hlt
    obtain ⟨z, hz2⟩ : ∃ z, l[behV l h on - 1] = z := ⟨_, rfl⟩
    rw [hz2] at hlt2 hu hml ⊢
    unfold upTo at hu
    unfold ltK at hlt2
    obtain ⟨o1, o2⟩ := ho
    have := hmax z hml ⟨by omega, by omega⟩
    omega
end Go.Proofs.YtcnkenknbmmglaaDoor.P
