/- Arguments opened: slices whose elements fill several cells; the end that all rows come to. -/
import Derived.Test.YtffbomfhihhmhaaBaseR
import Derived.Test.YtffbomfhihhmhaaRows
import Derived.ProofKit
import Derived.Deep.Slices
import Derived.Deep.Strs
import Derived.Lib.SmallJoins
import Derived.Carry
set_option linter.unusedSimpArgs false
set_option linter.unusedVariables false
namespace Go.Proofs.Ytffbomfhihhmhaa.Base
open Go Go.RowKit Go.ChangeShapes Go.WideShapes Go.ChangeAt Go.Deep

theorem own : ownKnob Try.prog.godebug = none := by kernel_rfl
theorem laidOut : laidOutB Try.prog = true := by kernel_rfl

/-- A slice argument, opened: its elements as values of α, where they lie. -/
theorem open_rows {α : Type} {H : Type} {enc : TypeId × Value → H} {P : Program} {W : World} {t e : TypeId} {n : Nat} {encc : α → List Value} (hn : ∀ x, (encc x).length = n) (ht : P.underlying t = some (.slice e)) (hc : P.cellsOf e = n) (hpos : 0 < n)
    (down : ∀ (fuel : Nat) (cs : List Value) (x : DataW H × List MemPlace), DataW.trod enc P W 0 (fun _ => true) true fuel e cs = some x → ∃ c : α, cs = encc c)
    {A : Option Addr} {len cap : Nat} {d : DataW H} {p : List MemPlace} (h : DataW.Trod enc P W 0 (fun _ => true) true t (.slice A len cap) d p) :
    ∃ l : List α, l.length = len ∧ RowsOf W n encc A l ∧ len ≤ 9223372036854775807 := by
  obtain ⟨fuel, hf⟩ := h
  rcases open_slice ht hf with ⟨hcs, _⟩ | ⟨a, len', cap', m, k, D, Pl, hcs, _, hl, hm, hmm, _, hel⟩
  · simp [Value.cells] at hcs
    obtain ⟨rfl, rfl, rfl⟩ := hcs
    exact ⟨[], rfl, rows_nil _ _ _ _, by omega⟩
  · simp [Value.cells] at hcs
    obtain ⟨rfl, rfl, rfl⟩ := hcs
    simp only [if_true] at hmm
    have key : ∀ k, k ≤ len → ∃ l : List α, l.length = k ∧ ∀ (i : Nat) (x : α), l[i]? = some x → ∀ j, j < n → W.cell? ((a.add (i * n)).add j) = (encc x)[j]? := by
      intro k
      induction k with
      | zero => exact fun _ => ⟨[], rfl, fun i x h => by simp at h⟩
      | succ k ih =>
        intro hk
        obtain ⟨l, hl1, hl2⟩ := ih (by omega)
        obtain ⟨cs', h1, h2⟩ := hel k (by omega)
        obtain ⟨c, rfl⟩ := down _ _ _ h2
        rw [hc] at h1
        obtain ⟨_, _, h3⟩ := World.cells?_some h1
        refine ⟨l ++ [c], by simp [hl1], fun i x hi j hj => ?_⟩
        by_cases hik : i < k
        · rw [List.getElem?_append_left (by omega)] at hi
          exact hl2 i x hi j hj
        · have hlt := (List.getElem?_eq_some_iff.1 hi).1
          have : i = k := by simp [hl1] at hlt; omega
          subst this
          rw [List.getElem?_append_right (by omega), hl1] at hi
          simp at hi
          subst hi
          exact h3 j hj
    obtain ⟨l, hl1, hl2⟩ := key len (Nat.le_refl _)
    refine ⟨l, hl1, fun i x hi => ⟨a, rfl, fun W' hW j v hj => ?_⟩, by simp only [maxLen] at hm; omega⟩
    have hjn : j < n := by have := (List.getElem?_eq_some_iff.1 hj).1; rw [hn] at this; exact this
    have h3 := (hl2 i x hi j hjn).trans hj
    exact (Below.cell hW (World.block_lt_of_cell? W _ h3)).trans h3
end Go.Proofs.Ytffbomfhihhmhaa.Base
