/- Sets of whole numbers: a map[int]bool of the call's own, asked and written. -/
import Derived.Test.YtjdhnhfglpogmaaWWords
import Derived.MapKept
import Derived.Lib.Hide
import Derived.Maps.Own
set_option linter.unusedSimpArgs false
set_option linter.unusedVariables false
namespace Go.Proofs.Ytjdhnhfglpogmaa.P
open Go Go.RowKit Go.MapKept
def IntSet (w : World) (m : Nat) (ks : List Int) : Prop :=
  ∃ es clk, w.heap[m]? = some (.map es clk) ∧ es.toList.map (fun e => (e.key, e.val)) = ks.map fun k => (Value.int .i64 k, Value.bool true)

theorem IntSet.new (w : World) : IntSet (w.alloc (.map #[] 0)) w.heap.size [] := ⟨#[], 0, (heap_alloc w _).1, rfl⟩
theorem IntSet.same {w w' : World} {m : Nat} {ks : List Int} (h : IntSet w m ks) (e : w'.heap[m]? = w.heap[m]?) : IntSet w' m ks := by
  obtain ⟨es, clk, h1, h2⟩ := h
  exact ⟨es, clk, e.trans h1, h2⟩
theorem IntSet.lt {w : World} {m : Nat} {ks : List Int} (h : IntSet w m ks) : m < w.heap.size := by
  obtain ⟨es, clk, h1, _⟩ := h
  exact (Array.getElem?_eq_some_iff.1 h1).1

theorem findNow_set (x : Int) : ∀ (es : List MapEntry) (ks : List Int) (i : Nat), es.map (fun e => (e.key, e.val)) = ks.map (fun k => (Value.int .i64 k, Value.bool true)) →
    (ks.contains x = false → Instr.findNow (.int .i64) (.int .i64 x) es i = some none) ∧ (ks.contains x = true → ∃ j e, es[j]? = some e ∧ e.key = .int .i64 x ∧ e.val = .bool true ∧ Instr.findNow (.int .i64) (.int .i64 x) es i = some (some (i + j, .bool true)))
  | [], [], i, _ => ⟨fun _ => rfl, fun h => by simp at h⟩
  | [], k :: ks, i, h => by simp at h
  | e :: es, [], i, h => by simp at h
  | e :: es, k :: ks, i, h => by
    simp only [List.map_cons, List.cons.injEq, Prod.mk.injEq] at h
    obtain ⟨⟨h1, h2⟩, h3⟩ := h
    have ih := findNow_set x es ks (i + 1) h3
    by_cases hk : x = k
    · subst hk
      refine ⟨fun h => by simp at h, fun _ => ⟨0, e, rfl, h1, h2, ?_⟩⟩
      simp [Instr.findNow, h1, h2, Instr.sameNow]
    · have hs : Instr.findNow (.int .i64) (.int .i64 x) (e :: es) i = Instr.findNow (.int .i64) (.int .i64 x) es (i + 1) := by
        have hb : (x == k) = false := by simp [hk]
        simp [Instr.findNow, h1, Instr.sameNow, hb]
      rw [hs]
      have hc : (k :: ks).contains x = ks.contains x := by simp [hk]
      rw [hc]
      refine ⟨ih.1, fun h => ?_⟩
      obtain ⟨j, e', h4, h5, h6, h7⟩ := ih.2 h
      exact ⟨j + 1, e', by simpa using h4, h5, h6, by rw [h7]; simp; omega⟩

section
variable {P : Program} {t k e : TypeId}
theorem isKey_i64 (x : Int) : IsKey (.int .i64) (.int .i64 x) := by simp [IsKey]
theorem run_lookup_set (ht : P.underlying t = some (.map k e)) (hk : P.underlying k = some (.int .i64)) (hz : ∀ w, (zeroValue e).run P w = .ok (.bool false) w) {w : World} {m : Nat} {ks : List Int} (h : IntSet w m ks) (x : Int) :
    (Instr.lookup t (.map (some m)) (.int .i64 x) false).run P w = .ok (.bool (ks.contains x)) w := by
  obtain ⟨es, clk, h1, h2⟩ := h
  have hf := findNow_set x es.toList ks 0 h2
  cases hc : ks.contains x with
  | true =>
    obtain ⟨j, e', _, _, _, h7⟩ := hf.2 hc
    simp [Instr.lookup, run_underlying ht, Go.MapKept.run_getObj_map h1, run_checkKey hk (isKey_i64 x), run_findKey hk h7, Result.andThen]
  | false =>
    have h7 := hf.1 hc
    simp [Instr.lookup, run_underlying ht, Go.MapKept.run_getObj_map h1, run_checkKey hk (isKey_i64 x), run_findKey hk h7, hz, Result.andThen]

theorem run_mapUpdate_set (ht : P.underlying t = some (.map k e)) (hk : P.underlying k = some (.int .i64)) {w : World} {m : Nat} {ks : List Int} (h : IntSet w m ks) (x : Int) :
    ∃ o, (Instr.mapUpdate t (.map (some m)) (.int .i64 x) (.bool true)).run P w = .ok () { w with heap := w.heap.setIfInBounds m o } ∧ IntSet { w with heap := w.heap.setIfInBounds m o } m (if ks.contains x then ks else ks ++ [x]) := by
  have hm := h.lt
  obtain ⟨es, clk, h1, h2⟩ := h
  have hf := findNow_set x es.toList ks 0 h2
  cases hc : ks.contains x with
  | true =>
    obtain ⟨j, e', h4, h5, h6, h7⟩ := hf.2 hc
    have hj : es[j]? = some e' := by simpa using h4
    have hjl : j < es.size := (Array.getElem?_eq_some_iff.1 hj).1
    have h7' : Instr.findNow (.int .i64) (.int .i64 x) es.toList 0 = some (some (j, .bool true)) := by simpa using h7
    refine ⟨.map (es.modify j fun e => { e with key := .int .i64 x, val := .bool true }) clk, ?_, ?_⟩
    · simp [Instr.mapUpdate, run_underlying ht, Go.MapKept.run_getObj_map h1, run_checkKey hk (isKey_i64 x), run_findKey hk h7', hj, h5, run_keyThatStays (isKey_i64 x), run_setObj_map _ h1, Result.andThen]
    · refine ⟨_, _, (heap_set h1).1, ?_⟩
      simp only [if_true]
      rw [← h2]
      apply List.ext_getElem?
      intro i
      simp only [List.getElem?_map, Array.getElem?_toList, Array.getElem?_modify]
      by_cases hij : j = i
      · subst hij
        simp [hj, h5, h6]
      · simp [hij]
  | false =>
    have h7 := hf.1 hc
    refine ⟨.map (es.push { key := .int .i64 x, val := .bool true, born := clk }) (clk + 1), ?_, ?_⟩
    · simp [Instr.mapUpdate, run_underlying ht, Go.MapKept.run_getObj_map h1, run_checkKey hk (isKey_i64 x), run_findKey hk h7, run_setObj_map _ h1, Result.andThen]
    · exact ⟨_, _, (heap_set h1).1, by simp [h2]⟩

/-- 'm[x] = true' in a walk. -/
theorem wpList_update_set {ops : Array Oper} {rest : List Oper} {o : Oper} {a : Act} {Q : Exit → Act → World → Prop} {w : World}
    (hg : o.guard = none) (ma xa va : Operand) (hop : o.op = Op.mapUpdate t ma xa va) (ht : P.underlying t = some (.map k e)) (hk : P.underlying k = some (.int .i64)) {m : Nat} {ks : List Int} (hm : a.eval ma = .map (some m)) (h : IntSet w m ks)
    (x : Int) (hx : a.eval xa = .int .i64 x) (hv : a.eval va = .bool true)
    (hK : ∀ w', IntSet w' m (if ks.contains x then ks else ks ++ [x]) → w.grownBy w' (some m) → wpList P ops Q rest (a.put o.dst undef) w') : wpList P ops Q (o :: rest) a w := by
  refine wpList_plain hg fun K' hK' => ?_
  obtain ⟨ob, hrun, r1⟩ := run_mapUpdate_set ht hk h x
  unfold Oper.wp
  simp [execOp, hop, hm, hx, hv, hrun, Result.andThen]
  exact hK' _ _ (hK _ r1 ⟨rfl, rfl, rfl, by simp, fun b _ hb => by
    have hne : m ≠ b := fun e => hb (by rw [e])
    simp [hne]⟩)
end
end Go.Proofs.Ytjdhnhfglpogmaa.P
