/- What the functions of package cause compute, in plain lists; the bits of a state tell the same. -/
import Derived.Test.YtjdhnhfglpogmaaXagree
set_option linter.unusedSimpArgs false
set_option linter.unusedVariables false
namespace Go.Proofs.Ytjdhnhfglpogmaa.P
open Go.RowKit Go.Proofs.YtjdhnhfglpogmaaW.PrintWords Go.Proofs.YtjdhnhfglpogmaaW.PrintLast Go.Proofs.YtjdhnhfglpogmaaW.PrintMore

def atF (b : Int → Bool) (ps : List Int) : Nat → Nat
  | 0 => 0
  | j + 1 => atF b ps j ||| (if b (rd ps j) then 2 ^ j else 0)
theorem atN_atF (out : Nat) (ps : List Int) : ∀ j, atN out ps j = atF (fun p => out.testBit p.toNat) ps j
  | 0 => rfl
  | j + 1 => by simp only [atN, atF, atN_atF out ps j]
theorem rd_mem {ps : List Int} {j : Nat} (h : j < ps.length) : rd ps j ∈ ps := by simp [rd, List.getD_eq_getElem?_getD, List.getElem?_eq_getElem h]
theorem atF_congr {b c : Int → Bool} (ps : List Int) (h : ∀ p ∈ ps, b p = c p) : ∀ j, j ≤ ps.length → atF b ps j = atF c ps j
  | 0, _ => rfl
  | j + 1, hj => by simp only [atF, atF_congr ps h j (by omega), h _ (rd_mem (show j < ps.length by omega))]
/-- One variable's value, for the values before it. -/
def oneB (v : S44) (u : Nat) (free out : List Bool) : Bool := if v.f1.length = 0 then free.getD u false else rdOf false v.f2 (atF (fun p => out.getD p.toNat false) v.f1 v.f1.length : Nat)
def runAux : List S44 → Nat → List Bool → List Bool → List Bool
  | [], _, _, out => out
  | v :: l, u, free, out => runAux l (if v.f1.length = 0 then u + 1 else u) free (out ++ [oneB v u free out])
def runB (l : List S44) (free : List Bool) : List Bool := runAux l 0 free []
theorem runAux_append : ∀ (a b : List S44) (u i : Nat) (free out : List Bool), runAux (a ++ b) u free out = runAux b (u + (freeAt a i).length) free (runAux a u free out)
  | [], b, u, i, free, out => by simp [runAux, freeAt]
  | v :: a, b, u, i, free, out => by
    simp only [List.cons_append, runAux]
    rw [runAux_append a b _ (i + 1) free]
    simp only [freeAt]
    split
    · simp only [List.length_cons]
      rw [show u + 1 + (freeAt a (i + 1)).length = u + ((freeAt a (i + 1)).length + 1) from by omega]
    · rfl
theorem runAux_length : ∀ (l : List S44) (u : Nat) (free out : List Bool), (runAux l u free out).length = out.length + l.length
  | [], _, _, _ => rfl
  | v :: l, u, free, out => by simp only [runAux, runAux_length l, List.length_append, List.length_cons, List.length_nil]; omega
theorem take_snoc' (l : List S44) (k : Nat) (hk : k < l.length) : l.take (k + 1) = l.take k ++ [rd_T44 l (k : Int)] := by
  rw [List.take_succ_eq_append_getElem hk]
  simp [rd_T44, List.getD_eq_getElem?_getD, List.getElem?_eq_getElem hk]
theorem runB_take (l : List S44) (free : List Bool) (k : Nat) (hk : k < l.length) : runB (l.take (k + 1)) free = runB (l.take k) free ++ [oneB (rd_T44 l k) (freeOf (l.take k)).length free (runB (l.take k) free)] := by
  unfold runB
  rw [take_snoc' l k hk, runAux_append _ _ 0 0]
  simp only [runAux, Nat.zero_add]
  rfl
theorem runB_len (l : List S44) (free : List Bool) : (runB l free).length = l.length := by
  unfold runB
  rw [runAux_length]
  simp

theorem initN_bit (fr : List Int) (s j : Nat) : ∀ k, (initN fr s k).testBit j = true ↔ ∃ q, q < k ∧ (rd fr q).toNat = j ∧ s.testBit (fr.length - 1 - q) = true
  | 0 => by simp [initN]
  | k + 1 => by
    have ih := initN_bit fr s j k
    simp only [initN, Nat.testBit_or, Bool.or_eq_true, ih]
    constructor
    · rintro (⟨q, h1, h2, h3⟩ | h)
      · exact ⟨q, by omega, h2, h3⟩
      · split at h
        · rename_i hs
          rw [Nat.testBit_two_pow] at h
          exact ⟨k, by omega, by simpa using h, hs⟩
        · simp at h
    · rintro ⟨q, h1, h2, h3⟩
      by_cases hq : q < k
      · exact .inl ⟨q, hq, h2, h3⟩
      · obtain rfl : q = k := by omega
        right
        rw [if_pos h3, Nat.testBit_two_pow]
        simpa using h2
/-- Where the index of a free variable stands. -/
theorem freeOf_split (l : List S44) (j : Nat) (hj : j < l.length) : freeOf l = freeOf (l.take j) ++ ((if (rd_T44 l j).f1.length = 0 then [(j : Int)] else []) ++ freeAt (l.drop (j + 1)) (j + 1)) := by
  have h : l = l.take j ++ (rd_T44 l j :: l.drop (j + 1)) := by
    have h1 : l.drop j = rd_T44 l j :: l.drop (j + 1) := by
      rw [List.drop_eq_getElem_cons hj]
      simp [rd_T44, List.getD_eq_getElem?_getD, List.getElem?_eq_getElem hj]
    rw [← h1, List.take_append_drop]
  unfold freeOf
  conv => lhs; rw [h]
  rw [freeAt_append]
  simp only [freeAt, List.length_take, Nat.min_eq_left (Nat.le_of_lt hj), Nat.zero_add]
  split <;> simp
theorem rd_append (a b : List Int) (q : Nat) : rd (a ++ b) q = if q < a.length then rd a q else rd b ((q - a.length : Nat) : Int) := by
  simp only [rd, List.getD_eq_getElem?_getD, Int.toNat_natCast]
  split
  · rename_i h
    rw [List.getElem?_append_left h]
  · rename_i h
    rw [List.getElem?_append_right (by omega)]
theorem free_at (l : List S44) (j q : Nat) (hj : j < l.length) (hq : q < (freeOf l).length) (h : (rd (freeOf l) q).toNat = j) : (rd_T44 l j).f1.length = 0 ∧ q = (freeOf (l.take j)).length := by
  have hsp := freeOf_split l j hj
  have hb := fun x hx => freeOf_bound (l.take j) x hx
  have hb2 := fun x hx => freeAt_bound (l.drop (j + 1)) (j + 1) x hx
  have hqm := rd_mem hq
  have hqb := freeOf_bound l _ hqm
  rw [hsp] at h hq hqb
  rw [rd_append] at h hqb
  by_cases h1 : q < (freeOf (l.take j)).length
  · rw [if_pos h1] at h hqb
    have := hb _ (rd_mem h1)
    rw [List.length_take] at this
    omega
  · rw [if_neg h1] at h hqb
    by_cases h0 : (rd_T44 l j).f1.length = 0
    · refine ⟨h0, ?_⟩
      rw [if_pos h0] at h hq hqb
      by_cases h2 : q = (freeOf (l.take j)).length
      · exact h2
      · exfalso
        rw [rd_append] at h hqb
        rw [if_neg (by simp; omega)] at h hqb
        have := hb2 _ (rd_mem (show q - (freeOf (l.take j)).length - [(j : Int)].length < _ by simp only [List.length_append, List.length_cons, List.length_nil] at hq ⊢; omega))
        omega
    · exfalso
      rw [if_neg h0, List.nil_append] at h hq hqb
      have := hb2 _ (rd_mem (show q - (freeOf (l.take j)).length < _ by simp only [List.length_append] at hq; omega))
      omega
theorem free_rd (l : List S44) (j : Nat) (hj : j < l.length) (h0 : (rd_T44 l j).f1.length = 0) : (freeOf (l.take j)).length < (freeOf l).length ∧ rd (freeOf l) ((freeOf (l.take j)).length : Nat) = j := by
  have hsp := freeOf_split l j hj
  rw [if_pos h0] at hsp
  constructor
  · rw [hsp]
    simp only [List.length_append, List.length_cons, List.length_nil]
    omega
  · rw [hsp, rd_append, if_neg (by omega), Nat.sub_self]
    rfl
/-- The parents of a variable stand before it. -/
def Back (l : List S44) : Prop := ∀ (i : Nat), i < l.length → ∀ p ∈ (rd_T44 l i).f1, 0 ≤ p ∧ p < (i : Int)
theorem val_run (l : List S44) (hb : Back l) (free : List Bool) (s : Nat) (hs : ∀ k, k < (freeOf l).length → s.testBit ((freeOf l).length - 1 - k) = free.getD k false) : ∀ i, i ≤ l.length →
    (∀ j, j < i → (valN l (initN (freeOf l) s (freeOf l).length) i).testBit j = (runB (l.take i) free).getD j false) ∧ (∀ j, i ≤ j → (valN l (initN (freeOf l) s (freeOf l).length) i).testBit j = (initN (freeOf l) s (freeOf l).length).testBit j)
  | 0, _ => ⟨fun j h => by omega, fun j _ => rfl⟩
  | i + 1, hi => by
    obtain ⟨h1, h2⟩ := val_run l hb free s hs i (by omega)
    have hlen : (runB (l.take i) free).length = i := by rw [runB_len, List.length_take]; omega
    have hrt := runB_take l free i (by omega)
    have hstep : valN l (initN (freeOf l) s (freeOf l).length) (i + 1) = stepN (valN l (initN (freeOf l) s (freeOf l).length) i) i (rd_T44 l i) := rfl
    rw [hstep, hrt]
    generalize valN l (initN (freeOf l) s (freeOf l).length) i = o at *
    generalize hR : runB (l.take i) free = R at *
    have hat : atN o (rd_T44 l i).f1 (rd_T44 l i).f1.length = atF (fun p => R.getD p.toNat false) (rd_T44 l i).f1 (rd_T44 l i).f1.length := by
      rw [atN_atF]
      refine atF_congr _ (fun p hp => ?_) _ (Nat.le_refl _)
      obtain ⟨g1, g2⟩ := hb i (by omega) p hp
      exact h1 p.toNat (by omega)
    have hget : ∀ (b : Bool) j, (R ++ [b]).getD j false = if j < i then R.getD j false else if j = i then b else false := by
      intro b j
      simp only [List.getD_eq_getElem?_getD]
      by_cases hj : j < i
      · rw [if_pos hj, List.getElem?_append_left (by omega)]
      · rw [if_neg hj, List.getElem?_append_right (by omega), hlen]
        by_cases hj2 : j = i
        · subst hj2; simp
        · rw [if_neg hj2, List.getElem?_eq_none (by simp; omega)]; rfl
    have hbit : (stepN o i (rd_T44 l i)).testBit i = oneB (rd_T44 l i) (freeOf (l.take i)).length free R := by
      unfold stepN oneB
      by_cases h0 : (rd_T44 l i).f1.length = 0
      · rw [if_pos h0, if_pos h0, h2 i (Nat.le_refl _)]
        obtain ⟨f1, f2⟩ := free_rd l i (by omega) h0
        rw [← hs _ f1, Bool.eq_iff_iff, initN_bit]
        constructor
        · rintro ⟨q, q1, q2, q3⟩
          obtain ⟨_, rfl⟩ := free_at l i q (by omega) q1 q2
          exact q3
        · intro h
          exact ⟨_, f1, by rw [f2]; simp, h⟩
      · rw [if_neg h0, if_neg h0, hat]
        have hoi : o.testBit i = false := by
          rw [h2 i (Nat.le_refl _)]
          cases hc : (initN (freeOf l) s (freeOf l).length).testBit i
          · rfl
          · obtain ⟨q, q1, q2, q3⟩ := (initN_bit _ _ _ _).1 hc
            exact absurd (free_at l i q (by omega) q1 q2).1 h0
        split
        · rename_i ht
          rw [ht, Nat.testBit_or, Nat.testBit_two_pow]
          simp
        · rename_i ht
          rw [hoi]
          simp only [Bool.not_eq_true] at ht
          exact ht.symm
    have hother : ∀ j, j ≠ i → (stepN o i (rd_T44 l i)).testBit j = o.testBit j := by
      intro j hj
      unfold stepN
      split
      · rfl
      · split
        · rw [Nat.testBit_or, Nat.testBit_two_pow]
          simp
          intro h
          omega
        · rfl
    constructor
    · intro j hj
      rw [hget]
      by_cases hji : j = i
      · subst hji
        rw [hbit, if_neg (by omega), if_pos rfl]
      · rw [hother j hji, if_pos (by omega), h1 j (by omega)]
    · intro j hj
      rw [hother j (by omega), h2 j (by omega)]
end Go.Proofs.Ytjdhnhfglpogmaa.P
