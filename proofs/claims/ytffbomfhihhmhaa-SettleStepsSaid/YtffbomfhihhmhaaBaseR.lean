/- Rows of several cells: made by the call, built in place. -/
import Derived.Test.YtffbomfhihhmhaaBaseI
set_option linter.unusedSimpArgs false
set_option linter.unusedVariables false
namespace Go.Proofs.Ytffbomfhihhmhaa.Base
open Go Go.RowKit

theorem flat_get {α : Type} (enc : α → List Value) (n : Nat) (hn : ∀ x, (enc x).length = n) : ∀ (l : List α) (i : Nat) (x : α) (j : Nat) (v : Value), l[i]? = some x → (enc x)[j]? = some v → (l.flatMap enc)[i * n + j]? = some v
  | [], i, x, j, v, h, _ => by simp at h
  | y :: l, 0, x, j, v, h, hj => by
    simp only [List.getElem?_cons_zero, Option.some.injEq] at h
    subst h
    have hlt := (List.getElem?_eq_some_iff.1 hj).1
    rw [List.flatMap_cons, Nat.zero_mul, Nat.zero_add, List.getElem?_append_left hlt]
    exact hj
  | y :: l, i + 1, x, j, v, h, hj => by
    have ih := flat_get enc n hn l i x j v (by simpa using h) hj
    rw [List.flatMap_cons, List.getElem?_append_right (by rw [hn, Nat.add_mul]; omega), hn]
    rw [show (i + 1) * n + j - n = i * n + j from by rw [Nat.add_mul]; omega]
    exact ih

theorem add_add (g i j : Nat) : ((⟨g, 0, none⟩ : Addr).add i).add j = ⟨g, i + j, none⟩ := by
  have h : ∀ (p q : Nat), (⟨g, p, none⟩ : Addr).add q = ⟨g, p + q, none⟩ := by
    intro p q
    unfold Addr.add
    split <;> simp_all
  rw [h, h, Nat.zero_add]

theorem rows_block {α : Type} {w : World} {g : Nat} {cs : Array Value} {t : TypeId} {fr : Nat × Nat} {n : Nat} {enc : α → List Value} (hn : ∀ x, (enc x).length = n) (l : List α) (hg : w.heap[g]? = some (.cells cs t fr)) (hcs : ∀ (i : Nat) (v : Value), (l.flatMap enc)[i]? = some v → cs[i]? = some v) :
    RowsOf w n enc (some ⟨g, 0, none⟩) l := by
  intro i x hi
  refine ⟨_, rfl, fun W hW j v hj => ?_⟩
  rw [add_add]
  refine (Below.cell (p := ⟨g, i * n + j, none⟩) hW (Array.getElem?_eq_some_iff.1 hg).1).trans ?_
  rw [cell_of_row _ _ _ _ _ _ hg]
  exact hcs _ _ (flat_get enc n hn l i x j v hi hj)
theorem rows_new {α : Type} {n : Nat} {enc : α → List Value} (hn : ∀ x, (enc x).length = n) (w : World) (l : List α) (cs : List Value) (t : TypeId) (hcs : l.flatMap enc = cs) : RowsOf (w.alloc (.cells cs.toArray t)) n enc (some ⟨w.heap.size, 0, none⟩) l :=
  rows_block hn l (heap_alloc_new w _) (fun i v h => by rw [← hcs]; simpa using h)
theorem own_rows {α : Type} {w : World} {base : Nat} {e n k : Nat} {v : Value} {enc : α → List Value} (hn : ∀ x, (enc x).length = n) {l : List α} (h : w.ownsRow base e n v k (l.flatMap enc)) (hk : k = l.length) : ∃ A c, v = .slice A l.length c ∧ RowsOf w n enc A l := by
  subst hk
  rcases h.2 with ⟨rfl, h0⟩ | ⟨g, cap, cur, rfl, _, hh, hle, _, hs, ht⟩
  · refine ⟨none, 0, by rw [h0], fun i x hi => ?_⟩
    have := (List.getElem?_eq_some_iff.1 hi).1
    omega
  · refine ⟨_, cap, rfl, rows_block hn l hh (fun i v hi => ?_)⟩
    have hlt := (List.getElem?_eq_some_iff.1 hi).1
    have hlen := h.1
    rw [← ht, List.getElem?_take_of_lt (by omega)] at hi
    simpa using hi
theorem rows_nil {α : Type} (w : World) (n : Nat) (enc : α → List Value) (A : Option Addr) : RowsOf w n enc A [] := fun i x hi => by simp at hi
end Go.Proofs.Ytffbomfhihhmhaa.Base
