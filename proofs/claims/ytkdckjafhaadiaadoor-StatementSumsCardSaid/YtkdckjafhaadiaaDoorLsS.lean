/- Chapter 43: StatementSums. -/
import Derived.Test.YtkdckjafhaadiaaDoorSB
import Derived.Test.YtkdckjafhaadiaaDoorPx92
set_option linter.unusedSimpArgs false
set_option linter.unusedVariables false
namespace Go.Proofs.YtkdckjafhaadiaaDoor.P
open Go Go.RowKit Go.Proofs.YtkdckjafhaadiaaDoorW.PrintWords Go.Proofs.YtkdckjafhaadiaaDoorW.PrintLast Go.Proofs.YtkdckjafhaadiaaDoorW.PrintMore

theorem linesB_parts {l : List S50} (h : linesB l = true) : l.length ≤ 64 ∧ l.all lineB = true ∧ riseB S50.f0 l = true := by
  simp only [linesB, Bool.and_eq_true, decide_eq_true_eq] at h
  exact h
def prodF (h : Int) (l : List S50) : Int := l.foldl (fun p x => p * cmI h x % 2147483579) 1
theorem prodF_mem {h : Int} (hk : keyB h = true) {l : List S50} (hl : l.all lineB = true) : memB (prodF h l) = true := by
  obtain ⟨n, rfl, h1, h2, h3⟩ := key_nat hk
  have e := prod_nat h1 h2 h3 l 0 0 hl
  rw [show (((4 ^ 0 * n ^ 0 % Nt.P : Nat)) : Int) = 1 from by rw [Nat.pow_zero, Nat.pow_zero]; rfl] at e
  show memB (l.foldl _ 1) = true
  rw [e]
  exact memB_mod ((Nt.G_el.pow _).mul (h2.pow _))
theorem prodF_take (h : Int) {l : List S50} {i : Nat} (hi : i < l.length) : prodF h (l.take (i + 1)) = prodF h (l.take i) * cmI h l[i] % 2147483579 := by
  unfold prodF
  rw [List.take_succ_eq_append_getElem hi, List.foldl_append]
  rfl
theorem sum_take (f : S50 → Int) {l : List S50} {i : Nat} (hi : i < l.length) : ((l.take (i + 1)).map f).sum = ((l.take i).map f).sum + f l[i] := by
  rw [List.take_succ_eq_append_getElem hi, List.map_append, List.sum_append]
  simp
theorem sum_bound (f : S50 → Int) (b : Int) (hb : 0 ≤ b) : ∀ (l : List S50), (∀ x ∈ l, -b ≤ f x ∧ f x ≤ b) → -(b * l.length) ≤ (l.map f).sum ∧ (l.map f).sum ≤ b * l.length
  | [], _ => by simp
  | x :: l, h => by
    have ih := sum_bound f b hb l (fun y hy => h y (List.mem_cons_of_mem _ hy))
    have hx := h x List.mem_cons_self
    simp only [List.map_cons, List.sum_cons, List.length_cons]
    rw [show (b * ((l.length + 1 : Nat) : Int)) = b * (l.length : Int) + b from by rw [Int.natCast_add, Int.mul_add]; simp]
    omega
theorem sums_fit {l : List S50} (h : linesB l = true) (i : Nat) : -100000000000 ≤ ((l.take i).map S50.f1).sum ∧ ((l.take i).map S50.f1).sum ≤ 100000000000 ∧ -100000000000 ≤ ((l.take i).map S50.f2).sum ∧ ((l.take i).map S50.f2).sum ≤ 100000000000 := by
  obtain ⟨h1, h2, -⟩ := linesB_parts h
  have hm : ∀ x ∈ l.take i, lineB x = true := fun x hx => List.all_eq_true.1 h2 x (List.mem_of_mem_take hx)
  have a := sum_bound S50.f1 1073741789 (by omega) (l.take i) (fun x hx => by have := line_parts (hm x hx); omega)
  have b := sum_bound S50.f2 1073741789 (by omega) (l.take i) (fun x hx => by have := line_parts (hm x hx); omega)
  have hlen : (l.take i).length ≤ 64 := by rw [List.length_take]; omega
  omega
theorem cmL_get {h : Int} {l : List S50} {i : Nat} (hi : i < l.length) : rd (cmL h l) (i : Int) = cmI h l[i] := by
  rw [rd_getI (by rw [cmL_len]; exact hi)]
  simp [cmL]
theorem sums_l0 {h : Int} (hk : keyB h = true) {l : List S50} (hl : linesB l = true) (r0 r1 : Int) : ∀ (d i k : Nat), l.length - i = d → i ≤ l.length → 100 + d < k →
    cohousinglaw43_StatementSums.l0 k h true (prodF h (l.take i)) ((l.take i).map S50.f1).sum ((l.take i).map S50.f2).sum l (l.length : Int) (i : Nat) r0 r1 (cmL h l) = some true
  | 0, i, k, hd, hi, hkk => by
    obtain ⟨k, rfl⟩ : ∃ n, k = n + 1 := ⟨k - 1, by omega⟩
    obtain rfl : i = l.length := by omega
    have hf := sums_fit hl l.length
    rw [List.take_length] at hf ⊢
    simp only [cohousinglaw43_StatementSums.l0]
    rw [if_neg (by omega), refRest_f _ (by omega) (by omega)]
    simp only [obs]
    rw [refRest_f _ (by omega) (by omega)]
    simp only [obs]
    rw [commit_f _ _ _ _ (by omega), prod_com hk (linesB_parts hl).2.1]
    simp only [obs, if_true]
    rw [show prodF h l = l.foldl (fun p x => p * cmI h x % 2147483579) 1 from rfl, beq_self_eq_true]
  | d + 1, i, k, hd, hi, hkk => by
    obtain ⟨k, rfl⟩ : ∃ n, k = n + 1 := ⟨k - 1, by omega⟩
    have hlt : i < l.length := by omega
    have hlen := (linesB_parts hl).1
    have ih := sums_l0 hk hl r0 r1 d (i + 1) k (by omega) (by omega) (by omega)
    have hf := sums_fit hl (i + 1)
    have hx : lineB l[i] = true := List.all_eq_true.1 (linesB_parts hl).2.1 _ (List.getElem_mem hlt)
    have htk : (l.take i).all lineB = true := List.all_eq_true.2 fun y hy => List.all_eq_true.1 (linesB_parts hl).2.1 y (List.mem_of_mem_take hy)
    have m1 := prodF_mem hk htk
    have m2 := cm_mem hk hx
    rw [prodF_take h hlt, sum_take _ hlt, sum_take _ hlt] at ih
    rw [sum_take _ hlt, sum_take _ hlt] at hf
    simp only [cohousinglaw43_StatementSums.l0]
    rw [if_pos (by omega), if_pos (by omega), if_pos (by omega), if_pos (by rw [cmL_len]; omega), cmL_get hlt, rd_getL hlt, mul_f]
    simp only [obs]
    rw [show mulV (prodF h (l.take i)) (cmI h l[i]) = (prodF h (l.take i) * cmI h l[i] % 2147483579, 0) from by unfold mulV; rw [m1, m2]; rfl]
    rw [if_pos rfl, wrap_id (a := _ + _) (by omega) (by omega), wrap_id (a := _ + _) (by omega) (by omega), show wrap64 ((i : Int) + 1) = ((i + 1 : Nat) : Int) by unfold wrap64; omega]
    exact ih
theorem sums_ev (h : Int) (l : List S50) : ∃ K, ∀ k, K ≤ k → cohousinglaw43_StatementSums.f k h l = some true := by
  refine ⟨300 + l.length, fun k hk => ?_⟩
  unfold cohousinglaw43_StatementSums.f
  rw [show cohousinglaw43_head.f = some true from rfl]
  simp only [obs]
  rw [seal_f]
  simp only [obs]
  unfold sealV
  by_cases hc : (keyB h && (homeB 1 && linesB l)) = true
  · rw [if_pos hc]
    simp only [Bool.and_eq_true] at hc
    rw [if_pos rfl, if_pos (by rw [cmL_len])]
    exact sums_l0 hc.1 hc.2.2 _ _ l.length 0 k (by omega) (by omega) (by omega)
  · rw [if_neg hc, if_neg (by decide), if_pos trivial]
    rfl
end Go.Proofs.YtkdckjafhaadiaaDoor.P
