/- Boxed variables of several cells. (Blk of Rf, for chapters without iterators.) -/
import Derived.Test.YtcnkenknbmmglaaDoorGen
import Derived.RangeFuncRecord
set_option linter.unusedSimpArgs false
set_option linter.unusedVariables false
namespace Go.Proofs.YtcnkenknbmmglaaDoor.P
open Go Go.RowKit

/-- A variable of several cells. -/
def Blk (W : World) (B : Nat) (t : TypeId) (vs : List Value) : Prop := W.heap[B]? = some (.cells vs.toArray t (0, 0))
theorem Blk.lt {W : World} {B : Nat} {t : TypeId} {vs : List Value} (h : Blk W B t vs) : B < W.heap.size := (Array.getElem?_eq_some_iff.1 h).1
theorem Blk.cell {W : World} {B : Nat} {t : TypeId} {vs : List Value} (h : Blk W B t vs) (i : Nat) (v : Value) (hi : vs[i]? = some v) : W.cell? ⟨B, i, none⟩ = some v := by
  simp [World.cell?, show W.heap[B]? = _ from h, hi]
theorem Blk.frozen {W : World} {B : Nat} {t : TypeId} {vs : List Value} (h : Blk W B t vs) (i : Nat) : W.frozen? ⟨B, i, none⟩ = false := by simp [World.frozen?, show W.heap[B]? = _ from h]
theorem Blk.new (W : World) (t : TypeId) (vs : List Value) : Blk (W.alloc (.cells vs.toArray t)) W.heap.size t vs := World.alloc_heap_new W _
theorem Blk.alloc {W : World} {B : Nat} {t : TypeId} {vs : List Value} (h : Blk W B t vs) (o : Obj) : Blk (W.alloc o) B t vs := ((World.grownBy_alloc W o none).block B h.lt (by simp)).trans h
theorem Blk.set {W : World} {B : Nat} {t : TypeId} {vs : List Value} (h : Blk W B t vs) (i : Nat) (v : Value) : Blk (W.setCell ⟨B, i, none⟩ v) B t (vs.set i v) := by
  obtain ⟨hlt, hk⟩ := Array.getElem?_eq_some_iff.1 h
  show (W.heap.modify B _)[B]? = _
  rw [Array.getElem?_eq_getElem (by rw [Array.size_modify]; exact hlt), Array.getElem_modify_self, hk]
  simp
theorem Blk.other {W : World} {B B' : Nat} {t : TypeId} {vs : List Value} (h : Blk W B t vs) (hne : B ≠ B') (i : Nat) (v : Value) : Blk (W.setCell ⟨B', i, none⟩ v) B t vs :=
  (Below.heap_setCell W ⟨B', i, none⟩ v B hne).trans h
theorem Blk.below {W W' : World} {B n : Nat} {t : TypeId} {vs : List Value} (h : Blk W B t vs) (hb : Below n W W') (hn : B < n) : Blk W' B t vs := (hb.block B hn).trans h
theorem Blk.drew {W : World} {B : Nat} {t : TypeId} {vs : List Value} (h : Blk W B t vs) : Blk W.drew B t vs := h
theorem Blk.grown {W W' : World} {B : Nat} {r : Option Nat} {t : TypeId} {vs : List Value} (h : Blk W B t vs) (hg : W.grownBy W' r) (hn : some B ≠ r) : Blk W' B t vs := (hg.block B h.lt hn).trans h
/-- A box that a walk has just laid, and what is known of the world. -/
theorem Blk.box (W : World) (t : TypeId) (vs : List Value) : Blk (W.alloc (.cells vs.toArray t)) W.heap.size t vs ∧ (W.alloc (.cells vs.toArray t)).heap.size = W.heap.size + 1 ∧ Below W.heap.size W (W.alloc (.cells vs.toArray t)) :=
  ⟨Blk.new W t vs, World.size_alloc _ _, (Below.refl _ W).alloc (Nat.le_refl _) _⟩
end Go.Proofs.YtcnkenknbmmglaaDoor.P
