/- Chapter 20's reference told plainly. -/
import Derived.Test.YtcnkenknbmmglaaDoorPk4
import Derived.Test.YtcnkenknbmmglaaDoorGp2R
import Derived.Test.YtcnkenknbmmglaaDoorPx14
import Derived.Test.YtcnkenknbmmglaaDoorPx14
set_option linter.unusedSimpArgs false
set_option linter.unusedVariables false
namespace Go.Proofs.YtcnkenknbmmglaaDoor.P
open Go Go.RowKit Go.Proofs.YtcnkenknbmmglaaDoorW.PrintWords Go.Proofs.YtcnkenknbmmglaaDoorW.PrintLast Go.Proofs.YtcnkenknbmmglaaDoorW.PrintMore

theorem rHome_f (n : Int) : cohousingref20_home.f n = some (homeV n) := by
  unfold cohousingref20_home.f homeV
  by_cases h : 1 ≤ n
  · rw [if_pos h, decide_eq_true h, Bool.true_and]
  · rw [if_neg h, decide_eq_false h, Bool.false_and]
theorem rDay_f (n : Int) : cohousingref20_day.f n = some (dayV n) := by
  unfold cohousingref20_day.f dayV
  by_cases h : 0 ≤ n
  · rw [if_pos h, decide_eq_true h, Bool.true_and]
  · rw [if_neg h, decide_eq_false h, Bool.false_and]
theorem rPublic_f (a : Int) (k : Nat) (hk : 40 ≤ k) : cohousingref20_Public.f k a = some (keyV a) := by
  unfold cohousingref20_Public.f keyV
  rw [refMember_f a k hk, obs]
  cases h : memB a with
  | false => rw [if_neg (by decide), Bool.and_false]
  | true => rw [if_pos rfl, Bool.and_true]; rfl
theorem rj1_true (l : List S49) (i : Int) (k : Nat) (hk : 1 ≤ k) : cohousingref20_Valid.j1 k l i true = some false := by
  obtain ⟨k, rfl⟩ : ∃ m, k = m + 1 := ⟨k - 1, by omega⟩
  rw [cohousingref20_Valid.j1, if_pos rfl]
theorem rValid_l0 (l : List S49) (hl : l.length ≤ 1000) : ∀ (d i k : Nat), l.length - i = d → i ≤ l.length → 2 * d + 46 ≤ k → cohousingref20_Valid.l0 k l (i : Int) = some (kvB (prevK l i) (l.drop i))
  | 0, i, k, h1, h2, h3 => by
    obtain ⟨k, rfl⟩ : ∃ m, k = m + 1 := ⟨k - 1, by omega⟩
    obtain rfl : i = l.length := by omega
    rw [cohousingref20_Valid.l0, if_neg (by omega), List.drop_length]
    rfl
  | d + 1, i, k, h1, h2, h3 => by
    obtain ⟨k, rfl⟩ : ∃ m, k = m + 2 := ⟨k - 2, by omega⟩
    have hi : i < l.length := by omega
    obtain ⟨x, hx⟩ : ∃ x, rd_T49 l (i : Int) = x := ⟨_, rfl⟩
    have hd : l.drop i = x :: l.drop (i + 1) := by rw [List.drop_eq_getElem_cons hi, ← hx, rd_getK hi]
    have ih := rValid_l0 l hl d (i + 1) k (by omega) (by omega) (by omega)
    have hw : wrap64 ((i : Int) + 1) = ((i + 1 : Nat) : Int) := by unfold wrap64; omega
    have hp : prevK l (i + 1) = some x := congrArg some hx
    rw [cohousingref20_Valid.l0, if_pos (by omega), if_pos (by omega), hx, rHome_f, obs, rPublic_f _ _ (by omega), obs, rDay_f, obs, hd, kvB]
    cases h0 : homeV x.f0 with
    | false => rw [if_neg (by decide), rj1_true _ _ _ (by omega)]; simp only [keyOk, h0, Bool.false_and]
    | true =>
    rw [if_pos rfl]
    cases h2 : keyV x.f1 with
    | false => rw [if_neg (by decide), rj1_true _ _ _ (by omega)]; simp only [keyOk, h0, h2, Bool.false_and, Bool.and_false]
    | true =>
    rw [if_pos rfl]
    cases h1 : dayV x.f2 with
    | false => rw [Bool.not_false, rj1_true _ _ _ (by omega)]; simp only [keyOk, h0, h1, Bool.false_and, Bool.and_false]
    | true =>
    have hk : keyOk x = true := by simp only [keyOk, h0, h1, h2, Bool.and_true]
    rw [hk, Bool.true_and, Bool.not_true, cohousingref20_Valid.j1, if_neg (by decide), hw, ih, hp]
    cases i with
    | zero =>
      rw [if_neg (by omega)]
      rfl
    | succ j =>
      have hw2 : wrap64 (((j + 1 : Nat) : Int) - 1) = ((j : Nat) : Int) := by unfold wrap64; omega
      rw [if_pos (by omega), hw2, if_pos (by omega), if_pos (by omega), if_pos (by omega), if_pos (by omega), hx]
      show _ = some (decide (cmpV (rd_T49 l (j : Int)) x < 0) && _)
      obtain ⟨q, hq⟩ : ∃ q, rd_T49 l (j : Int) = q := ⟨_, rfl⟩
      rw [hq]
      by_cases hc : cmpV q x < 0
      · rw [decide_eq_true hc, Bool.true_and]
        have h := (cmp_lt q x).1 hc
        unfold ltK at h
        rw [if_neg (by omega)]
        by_cases he : x.f0 = q.f0
        · rw [if_pos he, if_neg (by omega)]
        · rw [if_neg he]
      · rw [decide_eq_false hc, Bool.false_and]
        have h : ¬ ltK q x := fun h => hc ((cmp_lt q x).2 h)
        unfold ltK at h
        by_cases h5 : x.f0 < q.f0
        · rw [if_pos h5]
        · rw [if_neg h5, if_pos (by omega), if_pos (by omega)]
theorem rValid_f (l : List S49) (k : Nat) (hk : 2100 ≤ k) : cohousingref20_Valid.f k l = some (validB l) := by
  unfold cohousingref20_Valid.f validB
  by_cases h : l.length ≤ 1000
  · rw [if_neg (by omega), decide_eq_true h, Bool.true_and]
    exact rValid_l0 l h l.length 0 k rfl (Nat.zero_le _) (by omega)
  · rw [if_pos (by omega), decide_eq_false h, Bool.false_and]
/-- The reference's look for the key of a household: the last one that fits. -/
def stepF (h on : Int) (p : Int) (x : S49) : Int := if x.f0 = h ∧ x.f2 ≤ on then x.f1 else p
def rfV (l : List S49) (h on : Int) : Int := l.foldl (stepF h on) 0
theorem rFind_l0 (l : List S49) (hl : l.length ≤ 1000) (h on : Int) : ∀ (d i k : Nat), l.length - i = d → i ≤ l.length → d + 1 ≤ k → cohousingref20_find.l0 k l h on ((l.take i).foldl (stepF h on) 0) (i : Int) = some (rfV l h on)
  | 0, i, k, h1, h2, h3 => by
    obtain ⟨k, rfl⟩ : ∃ m, k = m + 1 := ⟨k - 1, by omega⟩
    obtain rfl : i = l.length := by omega
    rw [cohousingref20_find.l0, if_neg (by omega), List.take_length]
    rfl
  | d + 1, i, k, h1, h2, h3 => by
    obtain ⟨k, rfl⟩ : ∃ m, k = m + 1 := ⟨k - 1, by omega⟩
    have hi : i < l.length := by omega
    have ih := rFind_l0 l hl h on d (i + 1) k (by omega) (by omega) (by omega)
    have hw : wrap64 ((i : Int) + 1) = ((i + 1 : Nat) : Int) := by unfold wrap64; omega
    rw [List.take_succ_eq_append_getElem hi, List.foldl_append] at ih
    rw [cohousingref20_find.l0, if_pos (by omega), if_pos (by omega), hw, rd_getK hi]
    obtain ⟨p, hp⟩ : ∃ p, (l.take i).foldl (stepF h on) 0 = p := ⟨_, rfl⟩
    rw [hp] at ih ⊢
    by_cases g1 : l[i].f0 = h
    · rw [if_pos g1]
      by_cases g2 : l[i].f2 ≤ on
      · rw [if_pos g2]
        rw [show [l[i]].foldl (stepF h on) p = l[i].f1 from if_pos ⟨g1, g2⟩] at ih
        exact ih
      · rw [if_neg g2]
        rw [show [l[i]].foldl (stepF h on) p = p from if_neg (fun hc => g2 hc.2)] at ih
        exact ih
    · rw [if_neg g1]
      rw [show [l[i]].foldl (stepF h on) p = p from if_neg (fun hc => g1 hc.1)] at ih
      exact ih
theorem rFind_f (l : List S49) (hl : l.length ≤ 1000) (h on : Int) (k : Nat) (hk : 1001 ≤ k) : cohousingref20_find.f k l h on = some (rfV l h on) :=
  rFind_l0 l hl h on l.length 0 k rfl (Nat.zero_le _) (by omega)
theorem rf_latest (h on : Int) : ∀ (l : List S49), l.Pairwise ltK → ∀ p, ((∀ y ∈ l, ¬ ofH h on y) ∧ l.foldl (stepF h on) p = p) ∨ ∃ y ∈ l, ofH h on y ∧ (∀ z ∈ l, ofH h on z → z.f2 ≤ y.f2) ∧ l.foldl (stepF h on) p = y.f1
  | [], _, p => Or.inl ⟨by simp, rfl⟩
  | a :: l, hl, p => by
    rw [List.pairwise_cons] at hl
    rw [List.foldl_cons]
    by_cases ha : ofH h on a
    · rw [show stepF h on p a = a.f1 from if_pos ha]
      rcases rf_latest h on l hl.2 a.f1 with ⟨h1, h2⟩ | ⟨y, hy, h1, h2, h3⟩
      · refine Or.inr ⟨a, List.mem_cons_self, ha, fun z hz hoz => ?_, h2⟩
        rcases List.mem_cons.1 hz with rfl | hz
        · exact Int.le_refl _
        · exact absurd hoz (h1 z hz)
      · refine Or.inr ⟨y, List.mem_cons_of_mem _ hy, h1, fun z hz hoz => ?_, h3⟩
        rcases List.mem_cons.1 hz with rfl | hz
        · have hlt := hl.1 y hy
          have e1 := hoz.1
          have e2 := h1.1
          unfold ltK at hlt
          omega
        · exact h2 z hz hoz
    · rw [show stepF h on p a = p from if_neg ha]
      rcases rf_latest h on l hl.2 p with ⟨h1, h2⟩ | ⟨y, hy, h1, h2, h3⟩
      · refine Or.inl ⟨fun z hz => ?_, h2⟩
        rcases List.mem_cons.1 hz with rfl | hz
        · exact ha
        · exact h1 z hz
      · refine Or.inr ⟨y, List.mem_cons_of_mem _ hy, h1, fun z hz hoz => ?_, h3⟩
        rcases List.mem_cons.1 hz with rfl | hz
        · exact absurd hoz ha
        · exact h2 z hz hoz
theorem keyV_pos {a : Int} (h : keyV a = true) : a ≠ 0 := by
  simp only [keyV, Bool.and_eq_true] at h
  have := memB_lt h.2
  omega
/-- Both find the same. -/
theorem rf_find {l : List S49} (hl : Keys l) (h on : Int) : findV l h on = (rfV l h on, !(rfV l h on == 0)) := by
  unfold rfV
  rcases rf_latest h on l hl.ord 0 with ⟨h1, h2⟩ | ⟨y, hy, h1, h2, h3⟩
  · rw [h2, find_none hl.ord h1]
    rfl
  · rw [h3, find_some hl.ord hy h1 h2, beq_eq_false_iff_ne.2 (keyV_pos (keyOk_parts (hl.ok y hy)).2.2)]
    rfl
theorem rOf_f (l : List S49) (h on : Int) (k : Nat) (hk : 2100 ≤ k) : cohousingref20_Of.f k l h on = some (ofV l h on) := by
  unfold cohousingref20_Of.f ofV
  rw [rValid_f l k hk, obs, rHome_f, obs, rDay_f, obs]
  cases h2 : validB l with
  | false => rw [if_neg (by decide), Bool.and_false, Bool.and_false, if_neg (by decide)]
  | true =>
  rw [if_pos rfl]
  cases h0 : homeV h with
  | false => rw [if_neg (by decide), Bool.false_and, if_neg (by decide)]
  | true =>
  rw [if_pos rfl]
  cases h1 : dayV on with
  | false => rw [if_neg (by decide), Bool.false_and, Bool.and_false, if_neg (by decide)]
  | true =>
  have hv := (valid_iff l).1 h2
  rw [if_pos rfl, rFind_f l hv.1 h on k (by omega), obs, if_pos (by decide), rf_find hv.2 h on]
  rfl
theorem rIn_l0 (l : List Int) (a : Int) (hl : l.length ≤ 1000000) : ∀ (d i k : Nat), l.length - i = d → i ≤ l.length → d + 1 ≤ k → cohousingref20_in.l0 k l a (i : Int) = some ((l.drop i).contains a)
  | 0, i, k, h1, h2, h3 => by
    obtain ⟨k, rfl⟩ : ∃ m, k = m + 1 := ⟨k - 1, by omega⟩
    obtain rfl : i = l.length := by omega
    rw [cohousingref20_in.l0, if_neg (by omega), List.drop_length]
    rfl
  | d + 1, i, k, h1, h2, h3 => by
    obtain ⟨k, rfl⟩ : ∃ m, k = m + 1 := ⟨k - 1, by omega⟩
    have hi : i < l.length := by omega
    have ih := rIn_l0 l a hl d (i + 1) k (by omega) (by omega) (by omega)
    have hw : wrap64 ((i : Int) + 1) = ((i + 1 : Nat) : Int) := by unfold wrap64; omega
    rw [cohousingref20_in.l0, if_pos (by omega), if_pos (by omega), hw, ih, rd_getI hi, List.drop_eq_getElem_cons hi, List.contains_cons]
    by_cases g : l[i] = a
    · rw [if_pos g, beq_iff_eq.2 g.symm, Bool.true_or]
    · rw [if_neg g, beq_eq_false_iff_ne.2 (fun h => g h.symm), Bool.false_or]
theorem rIn_f (l : List Int) (a : Int) (hl : l.length ≤ 1000000) (k : Nat) (hk : l.length < k) : cohousingref20_in.f k l a = some (l.contains a) :=
  rIn_l0 l a hl l.length 0 k rfl (Nat.zero_le _) (by omega)
/-- What the reference's Renew does, told in its own words. -/
def rLate (l : List S49) (x : S49) : Bool := l.any (fun y => y.f0 == x.f0 && decide (x.f2 ≤ y.f2))
def rTry (l : List S49) (ns : List Int) (x : S49) (y : S28) : Int :=
  if ns.contains y.f3 && !(rfV l y.f3 x.f2 == 0) then (if (verV (rfV l y.f3 x.f2) y.f4.f0 y.f4.f1 [x.f0, x.f1, x.f2]).1 && (verV (rfV l y.f3 x.f2) y.f4.f0 y.f4.f1 [x.f0, x.f1, x.f2]).2 == 0 then 0 else 31) else 4
def rAll (l : List S49) (ns : List Int) (x : S49) : List S28 → List Int → List Int × Int
  | [], ks => (ks, 0)
  | y :: v, ks => if rTry l ns x y = 0 then rAll l ns x v (addS ks y.f3) else (ks, rTry l ns x y)
def rAt (l : List S49) (x : S49) : Nat := (l.takeWhile (fun y => decide (y.f0 ≤ x.f0))).length
def rRenewV (l : List S49) (ns : List Int) (need : Int) (v : List S28) : List S49 × Int :=
  if validB l && formedV ns need v then
    if rLate l (newK v) then ([], 6)
    else if (rAll l ns (newK v) v []).2 = 0 then
      if ((rAll l ns (newK v) v []).1.length : Int) < need then ([], 33)
      else if l.length = 1000 then ([], 2)
      else (l.take (rAt l (newK v)) ++ newK v :: l.drop (rAt l (newK v)), 0)
    else ([], (rAll l ns (newK v) v []).2)
  else ([], 1)
theorem rLate_eq {l : List S49} (hl : Keys l) (x : S49) : rLate l x = lateB l x := by
  rw [Bool.eq_iff_iff, late_iff hl]
  unfold rLate
  rw [List.any_eq_true]
  simp only [Bool.and_eq_true, beq_iff_eq, decide_eq_true_eq]
theorem rTry_eq {l : List S49} (hl : Keys l) (ns : List Int) (x : S49) (y : S28) : rTry l ns x y = tryV l ns x y := by
  unfold rTry tryV
  rw [rf_find hl, Bool.and_comm]
theorem rAll_eq {l : List S49} (hl : Keys l) (ns : List Int) (x : S49) : ∀ (v : List S28) (ks : List Int), rAll l ns x v ks = allTry l ns x v ks
  | [], _ => rfl
  | y :: v, ks => by rw [rAll, allTry, rTry_eq hl, rAll_eq hl ns x v]
theorem tw_at {α : Type} (p : α → Bool) : ∀ (l : List α) (n : Nat), n ≤ l.length → (∀ x ∈ l.take n, p x = true) → (∀ x, l[n]? = some x → p x = false) → (l.takeWhile p).length = n
  | [], n, h, _, _ => by
    have : n = 0 := by simpa using h
    subst this; rfl
  | a :: l, 0, _, _, h3 => by
    have ha := h3 a (by simp)
    rw [List.takeWhile_cons, ha]
    rfl
  | a :: l, n + 1, h1, h2, h3 => by
    have ha := h2 a (by simp)
    rw [List.takeWhile_cons, ha]
    simp only [List.length_cons, if_true]
    rw [tw_at p l n (by simpa using h1) (fun x hx => h2 x (by simp [hx])) (fun x hx => h3 x (by simpa using hx))]
theorem tw_len {α : Type} (p : α → Bool) (l : List α) (n : Nat) (h1 : n ≤ l.length) (h2 : ∀ x ∈ l.take n, p x = true) (h3 : ∀ x ∈ l.drop n, p x = false) : (l.takeWhile p).length = n :=
  tw_at p l n h1 h2 (fun x hx => h3 x (List.mem_drop_iff_getElem.2 (by
    obtain ⟨hlt, he⟩ := List.getElem?_eq_some_iff.1 hx
    exact ⟨0, by simpa using hlt, by simpa using he⟩)))
theorem rAt_eq {l : List S49} (hl : Keys l) (x : S49) : rAt l x = atV l x := by
  obtain ⟨h1, h2⟩ := beh_split l hl.ord x.f0 36524
  have hb := behV_le l x.f0 36524
  unfold rAt atV
  refine tw_len _ _ _ hb (fun y hy => ?_) (fun y hy => ?_)
  · have h := h1 y hy
    unfold upTo at h
    rw [decide_eq_true_eq]
    omega
  · have h := h2 y hy
    have h3 := dayV_iff.1 (keyOk_parts (hl.ok y (List.mem_of_mem_drop hy))).2.1
    unfold upTo at h
    rw [decide_eq_false_iff_not]
    omega
/-- Both renew alike. -/
theorem rRenew_eq (l : List S49) (ns : List Int) (need : Int) (v : List S28) : rRenewV l ns need v = renewV l ns need v := by
  unfold rRenewV renewV
  cases h : (validB l && formedV ns need v) with
  | false => rw [if_neg (by decide), if_neg (by decide)]
  | true =>
    rw [Bool.and_eq_true] at h
    have hl := ((valid_iff l).1 h.1).2
    rw [if_pos rfl, if_pos rfl, rLate_eq hl, rAll_eq hl, rAt_eq hl]
end Go.Proofs.YtcnkenknbmmglaaDoor.P
