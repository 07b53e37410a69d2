/- Orders: lists of n numbers from 0 to n - 1 with none twice, and lists of n numbers with each of them. No program in sight. -/
set_option linter.unusedSimpArgs false
set_option linter.unusedVariables false
namespace Go.Proofs.YtkaebblbmoolaaaDoor.Pm

theorem nodup_lt_len : ∀ (n : Nat) (l : List Nat), l.Nodup → (∀ x ∈ l, x < n) → l.length ≤ n
  | 0, l, _, h => by
    cases l with
    | nil => exact Nat.le_refl _
    | cons x l => exact absurd (h x (by simp)) (by omega)
  | n + 1, l, hd, h => by
    have h1 := nodup_lt_len n (l.erase n) (hd.erase n) (fun x hx => by
      have h2 := h x (List.mem_of_mem_erase hx)
      have h3 : x ≠ n := fun e => by subst e; exact (List.Nodup.not_mem_erase hd) hx
      omega)
    have h2 := @List.length_erase _ _ _ n l
    split at h2 <;> omega
theorem perm_of_nodup : ∀ (n : Nat) (l : List Nat), l.Nodup → (∀ x ∈ l, x < n) → l.length = n → l.Perm (List.range n)
  | 0, l, _, _, hl => by
    rw [List.length_eq_zero_iff] at hl
    subst hl
    exact List.Perm.refl _
  | n + 1, l, hd, h, hl => by
    have hm : n ∈ l := by
      refine Classical.byContradiction fun hn => ?_
      have := nodup_lt_len n l hd (fun x hx => by
        have h1 := h x hx
        have h2 : x ≠ n := fun e => hn (e ▸ hx)
        omega)
      omega
    have h1 := perm_of_nodup n (l.erase n) (hd.erase n) (fun x hx => by
      have h2 := h x (List.mem_of_mem_erase hx)
      have h3 : x ≠ n := fun e => by subst e; exact (List.Nodup.not_mem_erase hd) hx
      omega) (by rw [List.length_erase_of_mem hm]; omega)
    rw [List.range_succ]
    refine (List.perm_cons_erase hm).trans (((List.Perm.cons n h1)).trans ?_)
    exact (List.perm_append_comm (l₁ := [n]) (l₂ := List.range n))
theorem perm_of_all : ∀ (n : Nat) (l : List Nat), (∀ i, i < n → i ∈ l) → l.length = n → l.Perm (List.range n)
  | 0, l, _, hl => by
    rw [List.length_eq_zero_iff] at hl
    subst hl
    exact List.Perm.refl _
  | n + 1, l, h, hl => by
    have hm : n ∈ l := h n (by omega)
    have h1 := perm_of_all n (l.erase n) (fun i hi => by
      have h2 := h i (by omega)
      exact (List.mem_erase_of_ne (by omega)).2 h2) (by rw [List.length_erase_of_mem hm]; omega)
    rw [List.range_succ]
    refine (List.perm_cons_erase hm).trans (((List.Perm.cons n h1)).trans ?_)
    exact (List.perm_append_comm (l₁ := [n]) (l₂ := List.range n))
theorem perm_range_nodup {n : Nat} {l : List Nat} (h : l.Perm (List.range n)) : l.Nodup := h.nodup_iff.2 List.nodup_range
theorem perm_range_mem {n : Nat} {l : List Nat} (h : l.Perm (List.range n)) (i : Nat) : i ∈ l ↔ i < n := by rw [h.mem_iff, List.mem_range]
/-- How often p holds among what an order picks out of a list. -/
theorem count_order {α : Type} (p : α → Bool) (d : α) (l : List α) (o : List Nat) (h : o.Perm (List.range l.length)) : (o.map fun i => l.getD i d).countP p = l.countP p := by
  have h1 := (h.map fun i => l.getD i d).countP_eq p
  rw [h1]
  congr 1
  refine List.ext_getElem? fun i => ?_
  by_cases hi : i < l.length
  · simp [hi, List.getD_eq_getElem?_getD]
  · simp [hi]
end Go.Proofs.YtkaebblbmoolaaaDoor.Pm
