/- Chapter 40: a mix that is made is right. -/
import Derived.Test.YtkaebblbmoolaaaDoorPbB
set_option linter.unusedSimpArgs false
set_option linter.unusedVariables false
namespace Go.Proofs.YtkaebblbmoolaaaDoor.P
open Go Go.RowKit Go.Proofs.YtkaebblbmoolaaaDoorW.PrintWords Go.Proofs.YtkaebblbmoolaaaDoorW.PrintLast Go.Proofs.YtkaebblbmoolaaaDoorW.PrintMore

/-- The left and the right indexes that were shown ahead of the i-th link. -/
def lsL (f : List Int) (b : List Bool) (i : Nat) : List Int := ((List.range i).filter fun j : Nat => !rdOf false b (j : Int)).map fun j : Nat => rd f (j : Int)
def lsR (s : List Int) (b : List Bool) (i : Nat) : List Int := ((List.range i).filter fun j : Nat => rdOf false b (j : Int)).map fun j : Nat => idxI (j : Int) s 0
theorem lsL_succ (f : List Int) (b : List Bool) (i : Nat) : lsL f b (i + 1) = if rdOf false b (i : Int) = true then lsL f b i else lsL f b i ++ [rd f i] := by
  unfold lsL
  rw [List.range_succ, List.filter_append, List.map_append]
  by_cases h : rdOf false b (i : Int) = true
  · simp [h]
  · have h2 : rdOf false b (i : Int) = false := by simpa using h
    simp [h2]
theorem lsR_succ (s : List Int) (b : List Bool) (i : Nat) : lsR s b (i + 1) = if rdOf false b (i : Int) = true then lsR s b i ++ [idxI i s 0] else lsR s b i := by
  unfold lsR
  rw [List.range_succ, List.filter_append, List.map_append]
  by_cases h : rdOf false b (i : Int) = true
  · simp [h]
  · have h2 : rdOf false b (i : Int) = false := by simpa using h
    simp [h2]
theorem order_inj {l : List Int} {n : Nat} (h : orderB l n = true) {i j : Nat} (hi : i < n) (hj : j < n) (e : rd l i = rd l j) : i = j := by
  obtain ⟨h0, h1, h2⟩ := order_spec h
  have hd := Pm.perm_range_nodup h2
  have hli : i < (natL l).length := by simp [natL]; omega
  have hlj : j < (natL l).length := by simp [natL]; omega
  refine (List.getElem_inj (h₀ := hli) (h₁ := hlj) hd).1 ?_
  rw [rd_of_lt (by omega), rd_of_lt (by omega)] at e
  simp [natL, e]
theorem idx_inj {l : List Int} {n : Nat} (h : orderB l n = true) {i j : Nat} (hi : i < n) (hj : j < n) (e : idxI i l 0 = idxI j l 0) : i = j := by
  have h1 := (order_idx h hi).2.2
  have h2 := (order_idx h hj).2.2
  rw [e, h2] at h1
  have := Option.some.inj h1
  omega
theorem okD_of {n : Int} {ks : List Int} {x : Int} (h0 : 0 ≤ x) (h1 : x < n) (h2 : x ∉ ks) : okD n ks x = true := by
  simp only [okD, Bool.and_eq_true, decide_eq_true_eq, Bool.not_eq_true', List.contains_eq_mem, decide_eq_false_iff_not]
  exact ⟨h0, h1, h2⟩
theorem conB_made {k a b r : Int} (hk : keyB k = true) (hr : expB r = true) (ha : memB a = true) (hb : memB b = true) : conB k a b (nA a r) (nB k b r) r = true := by
  unfold conB okN
  rw [hk, hr, ha, hb]
  simp
theorem chk_made {k : Int} {l : List S23} {f s r t : List Int} (h : shufOk k l f s r t = true) :
    ∀ (d i : Nat), l.length - i = d → i ≤ l.length → chkF k l (shufMid k l f r) (shufOut k l f s r t) (shufBits k l f s r t) i (lsL f (shufBits k l f s r t) i) (lsR s (shufBits k l f s r t) i) ((shufLinks k l f s r t).drop i) = true := by
  obtain ⟨h0, h1, h2, h3, h4, h5⟩ := shuf_parts h
  have c1 : ciphsB (shufMid k l f r) = true := mixL_ciphs k l f r h0 h1 h2 h4
  have e1 : (shufMid k l f r).length = l.length := mixL_len _ _ _ _
  have hlen : (shufLinks k l f s r t).length = l.length := by simp [shufLinks]
  intro d
  induction d with
  | zero =>
    intro i hd hi
    obtain rfl : i = l.length := by omega
    rw [List.drop_eq_nil_of_le (by omega)]
    rfl
  | succ d ih =>
    intro i hd hi
    have hlt : i < l.length := by omega
    have ih' := ih (i + 1) (by omega) (by omega)
    have e : (shufLinks k l f s r t).drop i = linkAt f s r t (shufBits k l f s r t) i :: (shufLinks k l f s r t).drop (i + 1) := by
      rw [List.drop_eq_getElem_cons (by omega)]
      congr 1
      simp [shufLinks]
    rw [e]
    show (chkAt k l (shufMid k l f r) (shufOut k l f s r t) (shufBits k l f s r t) i (linkAt f s r t (shufBits k l f s r t) i) _ _ && _) = true
    rw [Bool.and_eq_true]
    rw [lsL_succ, lsR_succ] at ih'
    have qm := ciphs_rd (i := (i : Int)) c1 (by omega) (by omega)
    by_cases hb : rdOf false (shufBits k l f s r t) (i : Int) = true
    · rw [if_pos hb, if_pos hb] at ih'
      have hl : linkAt f s r t (shufBits k l f s r t) i = ⟨i, idxI i s 0, rd t (idxI i s 0)⟩ := by unfold linkAt; rw [if_pos hb]
      rw [hl]
      refine ⟨?_, by rw [if_pos hb]; exact ih'⟩
      obtain ⟨d0, d1, d2⟩ := order_idx h3 hlt
      obtain ⟨m, hm⟩ := Int.eq_ofNat_of_zero_le d0
      have hmlt : m < l.length := by omega
      have hnot : idxI i s 0 ∉ lsR s (shufBits k l f s r t) i := fun hmem => by
        obtain ⟨j, hj, e⟩ := List.mem_map.1 hmem
        have hj2 := List.mem_range.1 (List.mem_filter.1 hj).1
        have := idx_inj h3 (show j < l.length by omega) hlt e
        omega
      have hout : rd_T23 (shufOut k l f s r t) (idxI i s 0) = ⟨nA (rd_T23 (shufMid k l f r) (i : Int)).f0 (rd t (idxI i s 0)), nB k (rd_T23 (shufMid k l f r) (i : Int)).f1 (rd t (idxI i s 0))⟩ := by
        rw [hm]
        unfold shufOut
        rw [mixL_rd _ _ _ _ (by rw [mixL_len]; exact hmlt)]
        unfold mixAt
        have hs : rd s (m : Nat) = (i : Int) := by
          rw [hm, Int.toNat_natCast] at d2
          simp [rd, List.getD_eq_getElem?_getD, d2]
        rw [hs]
        rfl
      unfold chkAt
      rw [if_pos hb, hout, okD_of d0 d1 hnot]
      have hx : expB (rd t (idxI i s 0)) = true := by rw [hm]; exact exps_rd h5 hmlt
      simp only [beq_self_eq_true, Bool.true_and]
      exact conB_made h0 hx qm.1 qm.2
    · rw [if_neg hb, if_neg hb] at ih'
      have hl : linkAt f s r t (shufBits k l f s r t) i = ⟨rd f i, i, rd r i⟩ := by unfold linkAt; rw [if_neg hb]
      rw [hl]
      refine ⟨?_, by rw [if_neg hb]; exact ih'⟩
      have q := order_rd h2 hlt
      have hnot : rd f i ∉ lsL f (shufBits k l f s r t) i := fun hmem => by
        obtain ⟨j, hj, e⟩ := List.mem_map.1 hmem
        have hj2 := List.mem_range.1 (List.mem_filter.1 hj).1
        have := order_inj h2 (show j < l.length by omega) hlt e
        omega
      have qi := ciphs_rd h1 q.1 q.2
      have hmid : rd_T23 (shufMid k l f r) (i : Int) = ⟨nA (rd_T23 l (rd f i)).f0 (rd r i), nB k (rd_T23 l (rd f i)).f1 (rd r i)⟩ := mixL_rd _ _ _ _ hlt
      unfold chkAt
      rw [if_neg hb, hmid, okD_of q.1 q.2 hnot]
      simp only [beq_self_eq_true, Bool.true_and]
      exact conB_made h0 (exps_rd h4 hlt) qi.1 qi.2
theorem shuf_chk {k : Int} {l : List S23} {f s r t : List Int} (h : shufOk k l f s r t = true) : chkV k l (shufMid k l f r) (shufOut k l f s r t) (shufLinks k l f s r t) = (true, 0) := by
  obtain ⟨h0, h1, _⟩ := shuf_parts h
  unfold chkV
  rw [h0, h1, Bool.and_self, if_pos rfl, (shuf_ask h).1]
  rw [if_pos ⟨rfl, by simp [shufLinks]⟩]
  have := chk_made h l.length 0 (by omega) (by omega)
  rw [List.drop_zero] at this
  show (chkF k l (shufMid k l f r) (shufOut k l f s r t) (shufBits k l f s r t) 0 [] [] (shufLinks k l f s r t), (0 : Int)) = (true, 0)
  exact congrArg (fun b => (b, (0 : Int))) this
end Go.Proofs.YtkaebblbmoolaaaDoor.P
