/- Chapter 40: how many encrypted votes open to an element; an order changes it not. -/
import Derived.Test.YtkaebblbmoolaaaDoorPbE
import Derived.Test.YtkaebblbmoolaaaDoorPx7
set_option linter.unusedSimpArgs false
set_option linter.unusedVariables false
namespace Go.Proofs.YtkaebblbmoolaaaDoor.P
open Go Go.RowKit Go.Proofs.YtkaebblbmoolaaaDoorW.PrintWords Go.Proofs.YtkaebblbmoolaaaDoorW.PrintLast Go.Proofs.YtkaebblbmoolaaaDoorW.PrintMore

def opP (x : Nat) (v : Int) (c : S23) : Bool := opZ c.f0 c.f1 x == v
def cntV (l : List S23) (x : Nat) (v : Int) : Int := ((l.countP (opP x v) : Nat) : Int)
theorem count_l0 (l : List S23) (x : Nat) (v : Int) (hx0 : 0 < x) (hx1 : x < Nt.Q) (hl : ciphsB l = true) :
    ∀ (d i k : Nat), l.length - i = d → i ≤ l.length → d < k → cohousinglaw40_count.l0 k (x : Int) v (((l.take i).countP (opP x v) : Nat) : Int) l (l.length : Int) (i : Nat) = some (cntV l x v)
  | d, i, 0, hd, hi, hk => by omega
  | 0, i, k + 1, hd, hi, hk => by
    obtain rfl : i = l.length := by omega
    simp only [cohousinglaw40_count.l0]
    rw [if_neg (by omega), List.take_length]
    rfl
  | d + 1, i, k + 1, hd, hi, hk => by
    have ih := count_l0 l x v hx0 hx1 hl d (i + 1) k (by omega) (by omega) (by omega)
    have h64 : l.length ≤ 64 := by simp only [ciphsB, Bool.and_eq_true, decide_eq_true_eq] at hl; omega
    have hlt : i < l.length := by omega
    have q := ciphs_rd (i := (i : Int)) hl (by omega) (by omega)
    have e : l.take (i + 1) = l.take i ++ [rd_T23 l (i : Int)] := by
      rw [List.take_succ_eq_append_getElem hlt]
      congr 2
      unfold rd_T23
      simp [List.getD_eq_getElem?_getD, hlt]
    have hc : (l.take i).countP (opP x v) ≤ i := Nat.le_trans List.countP_le_length (by rw [List.length_take]; omega)
    rw [e, List.countP_append, List.countP_cons, List.countP_nil, Nat.zero_add] at ih
    simp only [cohousinglaw40_count.l0]
    rw [if_pos (by omega), if_pos (by omega), if_pos (by omega), open_f x hx0 hx1 q.1 q.2]
    simp only [obs]
    rw [wrapN i (by omega)]
    by_cases hv : opZ (rd_T23 l (i : Int)).f0 (rd_T23 l (i : Int)).f1 x = v
    · rw [if_pos hv, show wrap64 ((((l.take i).countP (opP x v) : Nat) : Int) + 1) = (((l.take i).countP (opP x v) + 1 : Nat) : Int) from by unfold wrap64; omega]
      rw [if_pos (by unfold opP; rw [hv]; simp)] at ih
      exact ih
    · rw [if_neg hv]
      rw [if_neg (by unfold opP; simpa using hv)] at ih
      exact ih
theorem count_f (l : List S23) (x : Nat) (v : Int) (hx0 : 0 < x) (hx1 : x < Nt.Q) (hl : ciphsB l = true) (k : Nat) (hk : 100 ≤ k) : cohousinglaw40_count.f k l (x : Int) v = some (cntV l x v) := by
  have h64 : l.length ≤ 64 := by simp only [ciphsB, Bool.and_eq_true, decide_eq_true_eq] at hl; omega
  have := count_l0 l x v hx0 hx1 hl l.length 0 k (by omega) (by omega) (by omega)
  exact this
theorem mix_count {k : Int} {x : Nat} {l : List S23} {f r : List Int} (v : Int) (hx1 : x < Nt.Q) (hk : k = (pubN x : Int)) (hl : ciphsB l = true) (hf : orderB f l.length = true) (hr : exlB r l.length = true) : cntV (mixL k l f r) x v = cntV l x v := by
  unfold cntV
  congr 1
  obtain ⟨h0, h1, h2⟩ := order_spec hf
  have hc := Pm.count_order (opP x v) z23 l (natL f) h2
  rw [← hc]
  have e1 : natL f = (List.range l.length).map fun j : Nat => (rd f (j : Int)).toNat := by
    refine List.ext_getElem (by simp [natL, h0]) fun i hi hi2 => ?_
    have hi' : i < f.length := by simpa [natL] using hi
    simp only [natL, List.getElem_map, List.getElem_range]
    rw [rd_of_lt hi']
  rw [e1, List.map_map]
  unfold mixL
  rw [List.countP_map, List.countP_map]
  refine List.countP_congr fun j hj => ?_
  have hlt := List.mem_range.1 hj
  have q := order_rd hf hlt
  have qi := ciphs_rd hl q.1 q.2
  have e2 : opZ (mixAt k l f r j).f0 (mixAt k l f r j).f1 x = opZ (rd_T23 l (rd f (j : Int))).f0 (rd_T23 l (rd f (j : Int))).f1 x := by
    subst hk
    exact open_anew hx1 qi.1 qi.2 (exps_rd hr hlt)
  simp only [Function.comp_apply, opP, e2]
  exact Iff.rfl
end Go.Proofs.YtkaebblbmoolaaaDoor.P
