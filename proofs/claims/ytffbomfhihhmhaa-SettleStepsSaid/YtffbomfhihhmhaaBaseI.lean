/- Words for walks inside a fence: boxes, rows of the call's own, appends. -/
import Derived.Test.YtffbomfhihhmhaaBase
import Derived.Test.YtffbomfhihhmhaaOrdI
import Derived.RangeFuncNested
import Derived.RangeFuncBound
import Derived.RangeFuncCalls
import Derived.RangeFuncLeaves
import Derived.Shelf.RegionOpen
import Derived.OwnWalkIn
import Derived.Maps.OwnIn
import Derived.TacticsInMore
import Derived.LoopNIn
import Derived.LoopIn
set_option linter.unusedSimpArgs false
set_option linter.unusedVariables false
namespace Go.Proofs.Ytffbomfhihhmhaa.Base
open Go Go.RowKit

theorem elems_new (w : World) (l : List Value) (t : TypeId) : Elems (w.alloc (.cells l.toArray t)) (some ⟨w.heap.size, 0, none⟩) l := by
  intro i v hi
  refine ⟨_, rfl, fun W hW => ?_⟩
  have hadd : (⟨w.heap.size, 0, none⟩ : Addr).add i = ⟨w.heap.size, i, none⟩ := by unfold Addr.add; split <;> simp_all
  rw [hadd]
  refine (Below.cell (p := ⟨w.heap.size, i, none⟩) hW (by simp)).trans ?_
  rw [cell_of_row _ _ _ _ _ (0, 0) (heap_alloc_new w _)]
  simpa using hi
theorem boxed_ext {W0 W : World} {B : Nat} {t : TypeId} {v : Value} (h : Boxed W0 B t v) (hx : Ext W0 W) : Boxed W B t v :=
  (hx.block B h.lt).trans h
theorem keepsFrom_ext {W0 W : World} (B : Nat) (h : Ext W0 W) : KeepsFrom B W0 W :=
  ⟨h.size, fun k o _ hk _ => (h.block k (Array.getElem?_eq_some_iff.1 hk).1).trans hk⟩
theorem row_set {W : World} {B : Nat} {t e : TypeId} {u : Value} (hb : Boxed W B t u) (hte : t ≠ e) {base sz n : Nat} {v : Value} {xs : List Value} (hr : W.ownsRow base e sz v n xs) (u' : Value) : (W.setCell ⟨B, 0, none⟩ u').ownsRow base e sz v n xs :=
  hr.kept (grownBy_setCell' W B u') (.inr (hb.not_row hte hr).symm)
theorem row_weak {W : World} {base b' : Nat} {e : TypeId} {sz n : Nat} {v : Value} {xs : List Value} (hr : W.ownsRow base e sz v n xs) (hb : b' ≤ base) : W.ownsRow b' e sz v n xs := by
  obtain ⟨h1, h2⟩ := hr
  refine ⟨h1, ?_⟩
  rcases h2 with h2 | ⟨g, cap, cur, h3, h4, h5⟩
  · exact .inl h2
  · exact .inr ⟨g, cap, cur, h3, Nat.le_trans hb h4, h5⟩
theorem row_slice {W : World} {base : Nat} {e : TypeId} {sz n : Nat} {v : Value} {xs : List Value} (hr : W.ownsRow base e sz v n xs) : ∃ A c, v = .slice A n c := by
  rcases hr.2 with ⟨rfl, rfl⟩ | ⟨g, cap, cur, rfl, _⟩
  · exact ⟨none, 0, rfl⟩
  · exact ⟨_, _, rfl⟩

theorem app_ownI {F : Fence} {nF : Nat} {P : Program} {ops : Array Oper} {rest : List Oper} {o : Oper} {a : Act} {Q : Exit → Act → World → Prop} {W : World} (base : Nat) {s x : Operand} (t : TypeId) {e : TypeId} (z : Value) (sz bytes : Nat) (n : Nat)
    (hgd : o.guard = none) (ho : o.op = .call { callee := .builtin .append, args := #[s, x], argTypes := #[t, t] }) (ht : P.underlying t = some (.slice e)) (hinfo : (P.info? e).map (fun i => (i.zero, i.size, i.bytes)) = some (some z, sz, bytes)) (hz : z.cells.size = sz) (hsz : 0 < sz) (hb0 : 0 < bytes)
    {v : Value} {xs : List Value} {cs : Array Value} (hs : a.eval s = v) {B : Nat} (hx : a.eval x = .slice (some ⟨B, 0, none⟩) 1 1) (hB : B = W.heap.size) (hc : cs.size = sz) (h1 : ∀ u ∈ cs.toList, u.oneCell' = true)
    (HO : W.ownsRow base e sz v n xs) (hbase : base ≤ W.heap.size) (hl : (n + 1) * bytes ≤ 140737488355328)
    (h : ∀ v1 w1, w1.ownsRow base e sz v1 (n + 1) (xs ++ cs.toList) → (W.alloc (.cells cs e)).grownBy w1 v.ownBlock → wpListIn F nF P ops Q rest (a.put o.dst v1) w1) :
    wpListIn F nF P ops Q (o :: rest) a (W.alloc (.cells cs e)) := by
  subst hB
  obtain ⟨i0, hi, hzz⟩ := Option.map_eq_some_iff.1 hinfo
  simp only [Prod.mk.injEq] at hzz
  obtain ⟨hz0, hz1, hz2⟩ := hzz
  have hn : n + 1 ≤ 140737488355328 := Nat.le_trans (Nat.le_mul_of_pos_right _ hb0) hl
  refine wpListIn_append_own_at (w := W.alloc (.cells cs e)) hgd s x t ho base e i0 z sz bytes ht hi hz0 hz1 hz2 hz hsz v n xs hs (HO.alloc _) ⟨W.heap.size, 0, none⟩ 1 1 cs.toList hx (by simp [hc])
    (World.news_of_block (cs := cs) (t := e) (fr := (0, 0)) (heap_alloc_new W _)) h1 (by simp only [maxLen]; omega) hl (by simp; omega) ?_
  intro v1 w1 hown hg _ _
  exact h v1 w1 hown hg
end Go.Proofs.Ytffbomfhihhmhaa.Base
