/- Words for the walks: what a call may not turn, rows that are read, sets of whole numbers. -/
import Derived.Test.YtffbomfhihhmhaaOrd
import Derived.Below
import Derived.WalkKit
import Derived.MapKept
import Derived.KernelRfl
import Derived.LoopTactic
import Derived.Lib.Hide
import Derived.Shelf.Abstract
import Derived.Laws.StructEq
import Derived.OwnWalk
import Derived.Maps.Own
import Derived.Maps.AppendAt
import Derived.Deep.AppendLies
set_option linter.unusedSimpArgs false
set_option linter.unusedVariables false
namespace Go.Proofs.Ytffbomfhihhmhaa.Base
open Go Go.RowKit Go.MapKept Go.Proofs.Ytffbomfhihhmhaa.Ord

/-- Nothing that was there has turned. -/
def Ext (w w' : World) : Prop := Below w.heap.size w w'
theorem Ext.refl (w : World) : Ext w w := Below.refl _ _
theorem Ext.trans {a b c : World} (h : Ext a b) (k : Ext b c) : Ext a c := Below.trans h (Below.mono k h.size)
theorem Ext.alloc (w : World) (o : Obj) : Ext w (w.alloc o) := (Below.refl _ _).alloc (Nat.le_refl _) _
theorem Ext.set {w W : World} (h : Ext w W) {p : Addr} (hp : w.heap.size ≤ p.block) (u : Value) : Ext w (W.setCell p u) := Below.setCell h hp u
theorem Ext.drew (w : World) : Ext w w.drew := (Below.refl _ _).drew


/-- Where the elements of a row lie, and what is read there, in this world and in each that keeps it. -/
def Elems (w : World) (A : Option Addr) (vs : List Value) : Prop :=
  ∀ (i : Nat) v, vs[i]? = some v → ∃ ad, A = some ad ∧ ∀ W, Ext w W → W.cell? (ad.add i) = some v
theorem Elems.ext {w w' : World} {A : Option Addr} {vs : List Value} (h : Elems w A vs) (e : Ext w w') : Elems w' A vs := fun i v hi =>
  let ⟨ad, ha, hl⟩ := h i v hi
  ⟨ad, ha, fun W hW => hl W (e.trans hW)⟩

def idxF {α : Type} (p : α → Bool) : List α → Option Nat
  | [] => none
  | x :: r => if p x then some 0 else (idxF p r).map (· + 1)
def idxI {α : Type} (p : α → Bool) (l : List α) : Int := match idxF p l with | none => -1 | some i => i

/-- A function value that says of an x whether p holds. -/
def Pred {α : Type} (P : Program) (w : World) (g : Nat) (cap : Array Value) (enc : α → Value) (p : α → Bool) : Prop :=
  ∀ x W, Ext w W → Calls P g (#[enc x] ++ cap) W fun e W' => e = .returned (.bool (p x)) ∧ Ext W W'


theorem idxF_hit {α : Type} (p : α → Bool) : ∀ (l : List α) (k : Nat) (x : α), l[k]? = some x → p x = true → (∀ (j : Nat) (y : α), j < k → l[j]? = some y → p y = false) → idxF p l = some k
  | [], k, x, hk, _, _ => by simp at hk
  | y :: l, 0, x, hk, hp, _ => by
    simp only [List.getElem?_cons_zero, Option.some.injEq] at hk
    subst hk
    simp [idxF, hp]
  | y :: l, k + 1, x, hk, hp, h => by
    have hy := h 0 y (by omega) (by simp)
    have := idxF_hit p l k x (by simpa using hk) hp (fun j z hj hz => h (j + 1) z (by omega) (by simpa using hz))
    simp [idxF, hy, this]
theorem idxF_miss {α : Type} (p : α → Bool) : ∀ (l : List α), (∀ (j : Nat) (y : α), l[j]? = some y → p y = false) → idxF p l = none
  | [], _ => rfl
  | y :: l, h => by
    have hy := h 0 y (by simp)
    have := idxF_miss p l (fun j z hz => h (j + 1) z (by simpa using hz))
    simp [idxF, hy, this]
theorem idxI_hit {α : Type} (p : α → Bool) (l : List α) (k : Nat) (x : α) (hk : l[k]? = some x) (hp : p x = true) (h : ∀ (j : Nat) (y : α), j < k → l[j]? = some y → p y = false) : idxI p l = k := by
  unfold idxI
  rw [idxF_hit p l k x hk hp h]
theorem idxI_miss {α : Type} (p : α → Bool) (l : List α) (h : ∀ (j : Nat) (y : α), l[j]? = some y → p y = false) : idxI p l = -1 := by
  unfold idxI
  rw [idxF_miss p l h]

theorem idxI_nonneg {α : Type} (p : α → Bool) : ∀ (l : List α), decide (0 ≤ idxI p l) = l.any p
  | [] => rfl
  | y :: l => by
    have ih := idxI_nonneg p l
    unfold idxI at *
    cases hy : p y with
    | true => simp [idxF, hy]
    | false =>
      simp only [idxF, hy, List.any_cons, Bool.false_or]
      rw [← ih]
      cases idxF p l <;> simp
      omega

/-- Rows of elements of several cells each: the cells of element i. -/
def RowsOf {α : Type} (w : World) (n : Nat) (enc : α → List Value) (A : Option Addr) (xs : List α) : Prop :=
  ∀ (i : Nat) x, xs[i]? = some x → ∃ ad, A = some ad ∧ ∀ W, Ext w W → ∀ (j : Nat) v, (enc x)[j]? = some v → W.cell? ((ad.add (i * n)).add j) = some v


theorem RowsOf.ext {α : Type} {w w' : World} {n : Nat} {enc : α → List Value} {A : Option Addr} {l : List α} (h : RowsOf w n enc A l) (e : Ext w w') : RowsOf w' n enc A l := fun i x hi =>
  let ⟨ad, ha, hl⟩ := h i x hi
  ⟨ad, ha, fun W hW => hl W (e.trans hW)⟩

theorem cell_two (w : World) (a b : Value) (t : TypeId) : ∀ (i : Nat) v, [a, b][i]? = some v → ∃ ad, some (⟨w.heap.size, 0, none⟩ : Addr) = some ad ∧ ∀ W, Ext (w.alloc (.cells #[a, b] t)) W → W.cell? (ad.add i) = some v := by
  intro i v hi
  refine ⟨_, rfl, fun W hW => ?_⟩
  have hlt : (⟨w.heap.size, 0, none⟩ : Addr).block < (w.alloc (.cells #[a, b] t)).heap.size := by simp
  match i, hi with
  | 0, hi => exact (hW.cell (p := ⟨w.heap.size, 0, none⟩) hlt).trans (by simp at hi; subst hi; simp)
  | 1, hi => exact (hW.cell (p := ⟨w.heap.size, 1, none⟩) hlt).trans (by simp at hi; subst hi; simp)

theorem ret_bool {a b : Bool} (h : a = b) : Ending.returned (.bool a) = Ending.returned (.bool b) := by rw [h]

def IntSet (w : World) (m : Nat) (ks : List Int) : Prop :=
  ∃ es clk, w.heap[m]? = some (.map es clk) ∧ es.toList.map (fun e => (e.key, e.val)) = ks.map fun k => (Value.int .i64 k, Value.bool true)

theorem IntSet.new (w : World) : IntSet (w.alloc (.map #[] 0)) w.heap.size [] := ⟨#[], 0, (heap_alloc w _).1, rfl⟩
theorem IntSet.same {w w' : World} {m : Nat} {ks : List Int} (h : IntSet w m ks) (e : w'.heap[m]? = w.heap[m]?) : IntSet w' m ks := by
  obtain ⟨es, clk, h1, h2⟩ := h
  exact ⟨es, clk, e.trans h1, h2⟩
theorem IntSet.lt {w : World} {m : Nat} {ks : List Int} (h : IntSet w m ks) : m < w.heap.size := by
  obtain ⟨es, clk, h1, _⟩ := h
  exact (Array.getElem?_eq_some_iff.1 h1).1

theorem findNow_set (x : Int) : ∀ (es : List MapEntry) (ks : List Int) (i : Nat), es.map (fun e => (e.key, e.val)) = ks.map (fun k => (Value.int .i64 k, Value.bool true)) →
    (ks.contains x = false → Instr.findNow (.int .i64) (.int .i64 x) es i = some none) ∧ (ks.contains x = true → ∃ j e, es[j]? = some e ∧ e.key = .int .i64 x ∧ e.val = .bool true ∧ Instr.findNow (.int .i64) (.int .i64 x) es i = some (some (i + j, .bool true)))
  | [], [], i, _ => ⟨fun _ => rfl, fun h => by simp at h⟩
  | [], k :: ks, i, h => by simp at h
  | e :: es, [], i, h => by simp at h
  | e :: es, k :: ks, i, h => by
    simp only [List.map_cons, List.cons.injEq, Prod.mk.injEq] at h
    obtain ⟨⟨h1, h2⟩, h3⟩ := h
    have ih := findNow_set x es ks (i + 1) h3
    by_cases hk : x = k
    · subst hk
      refine ⟨fun h => by simp at h, fun _ => ⟨0, e, rfl, h1, h2, ?_⟩⟩
      simp [Instr.findNow, h1, h2, Instr.sameNow]
    · have hs : Instr.findNow (.int .i64) (.int .i64 x) (e :: es) i = Instr.findNow (.int .i64) (.int .i64 x) es (i + 1) := by
        have hb : (x == k) = false := by simp [hk]
        simp [Instr.findNow, h1, Instr.sameNow, hb]
      rw [hs]
      have hc : (k :: ks).contains x = ks.contains x := by simp [hk]
      rw [hc]
      refine ⟨ih.1, fun h => ?_⟩
      obtain ⟨j, e', h4, h5, h6, h7⟩ := ih.2 h
      exact ⟨j + 1, e', by simpa using h4, h5, h6, by rw [h7]; simp; omega⟩

section
variable {P : Program} {t k e : TypeId}
theorem isKey_i64 (x : Int) : IsKey (.int .i64) (.int .i64 x) := by simp [IsKey]
theorem run_lookup_set (ht : P.underlying t = some (.map k e)) (hk : P.underlying k = some (.int .i64)) (hz : ∀ w, (zeroValue e).run P w = .ok (.bool false) w) {w : World} {m : Nat} {ks : List Int} (h : IntSet w m ks) (x : Int) :
    (Instr.lookup t (.map (some m)) (.int .i64 x) false).run P w = .ok (.bool (ks.contains x)) w := by
  obtain ⟨es, clk, h1, h2⟩ := h
  have hf := findNow_set x es.toList ks 0 h2
  cases hc : ks.contains x with
  | true =>
    obtain ⟨j, e', _, _, _, h7⟩ := hf.2 hc
    simp [Instr.lookup, run_underlying ht, Go.MapKept.run_getObj_map h1, run_checkKey hk (isKey_i64 x), run_findKey hk h7, Result.andThen]
  | false =>
    have h7 := hf.1 hc
    simp [Instr.lookup, run_underlying ht, Go.MapKept.run_getObj_map h1, run_checkKey hk (isKey_i64 x), run_findKey hk h7, hz, Result.andThen]

theorem run_mapUpdate_set (ht : P.underlying t = some (.map k e)) (hk : P.underlying k = some (.int .i64)) {w : World} {m : Nat} {ks : List Int} (h : IntSet w m ks) (x : Int) :
    ∃ o, (Instr.mapUpdate t (.map (some m)) (.int .i64 x) (.bool true)).run P w = .ok () { w with heap := w.heap.setIfInBounds m o } ∧ IntSet { w with heap := w.heap.setIfInBounds m o } m (if ks.contains x then ks else ks ++ [x]) := by
  have hm := h.lt
  obtain ⟨es, clk, h1, h2⟩ := h
  have hf := findNow_set x es.toList ks 0 h2
  cases hc : ks.contains x with
  | true =>
    obtain ⟨j, e', h4, h5, h6, h7⟩ := hf.2 hc
    have hj : es[j]? = some e' := by simpa using h4
    have hjl : j < es.size := (Array.getElem?_eq_some_iff.1 hj).1
    have h7' : Instr.findNow (.int .i64) (.int .i64 x) es.toList 0 = some (some (j, .bool true)) := by simpa using h7
    refine ⟨.map (es.modify j fun e => { e with key := .int .i64 x, val := .bool true }) clk, ?_, ?_⟩
    · simp [Instr.mapUpdate, run_underlying ht, Go.MapKept.run_getObj_map h1, run_checkKey hk (isKey_i64 x), run_findKey hk h7', hj, h5, run_keyThatStays (isKey_i64 x), run_setObj_map _ h1, Result.andThen]
    · refine ⟨_, _, (heap_set h1).1, ?_⟩
      simp only [if_true]
      rw [← h2]
      apply List.ext_getElem?
      intro i
      simp only [List.getElem?_map, Array.getElem?_toList, Array.getElem?_modify]
      by_cases hij : j = i
      · subst hij
        simp [hj, h5, h6]
      · simp [hij]
  | false =>
    have h7 := hf.1 hc
    refine ⟨.map (es.push { key := .int .i64 x, val := .bool true, born := clk }) (clk + 1), ?_, ?_⟩
    · simp [Instr.mapUpdate, run_underlying ht, Go.MapKept.run_getObj_map h1, run_checkKey hk (isKey_i64 x), run_findKey hk h7, run_setObj_map _ h1, Result.andThen]
    · exact ⟨_, _, (heap_set h1).1, by simp [h2]⟩

/-- 'm[x] = true' in a walk. -/
theorem wpList_update_set {ops : Array Oper} {rest : List Oper} {o : Oper} {a : Act} {Q : Exit → Act → World → Prop} {w : World}
    (hg : o.guard = none) (ma xa va : Operand) (hop : o.op = Op.mapUpdate t ma xa va) (ht : P.underlying t = some (.map k e)) (hk : P.underlying k = some (.int .i64)) {m : Nat} {ks : List Int} (hm : a.eval ma = .map (some m)) (h : IntSet w m ks)
    (x : Int) (hx : a.eval xa = .int .i64 x) (hv : a.eval va = .bool true)
    (hK : ∀ w', IntSet w' m (if ks.contains x then ks else ks ++ [x]) → w.grownBy w' (some m) → wpList P ops Q rest (a.put o.dst undef) w') : wpList P ops Q (o :: rest) a w := by
  refine wpList_plain hg fun K' hK' => ?_
  obtain ⟨ob, hrun, r1⟩ := run_mapUpdate_set ht hk h x
  unfold Oper.wp
  simp [execOp, hop, hm, hx, hv, hrun, Result.andThen]
  exact hK' _ _ (hK _ r1 ⟨rfl, rfl, rfl, by simp, fun b _ hb => by
    have hne : m ≠ b := fun e => hb (by rw [e])
    simp [hne]⟩)
end
/-- 'append(s, x)' of one element, in a walk: s is nil or the call's own. -/
theorem app_own {P : Program} {ops : Array Oper} {rest : List Oper} {o : Oper} {a : Act} {Q : Exit → Act → World → Prop} {W : World} (base : Nat) (hgd : o.guard = none) (s x : Operand) (t e : TypeId) (z : Value) (sz bytes : Nat)
    (ho : o.op = .call { callee := .builtin .append, args := #[s, x], argTypes := #[t, t] }) (ht : P.underlying t = some (.slice e)) (hinfo : (P.info? e).map (fun i => (i.zero, i.size, i.bytes)) = some (some z, sz, bytes)) (hz : z.cells.size = sz) (hsz : 0 < sz) (hb0 : 0 < bytes)
    (v : Value) (n : Nat) (xs : List Value) (cs : Array Value) (hs : a.eval s = v) {B : Nat} (hx : a.eval x = .slice (some ⟨B, 0, none⟩) 1 1) (hB : B = W.heap.size) (hc : cs.size = sz) (h1 : ∀ u ∈ cs.toList, u.oneCell' = true)
    (HO : W.ownsRow base e sz v n xs) (hbase : base ≤ W.heap.size) (hl : (n + 1) * bytes ≤ 140737488355328)
    (h : ∀ v1 w1, w1.ownsRow base e sz v1 (n + 1) (xs ++ cs.toList) → W.grownBy w1 v.ownBlock → wpList P ops Q rest (a.put o.dst v1) w1) :
    wpList P ops Q (o :: rest) a (W.alloc (.cells cs e)) := by
  subst hB
  obtain ⟨i0, hi, hzz⟩ := Option.map_eq_some_iff.1 hinfo
  simp only [Prod.mk.injEq] at hzz
  obtain ⟨hz0, hz1, hz2⟩ := hzz
  have hn : n + 1 ≤ 140737488355328 := Nat.le_trans (Nat.le_mul_of_pos_right _ hb0) hl
  refine wpList_append_own_at (W.alloc (.cells cs e)) hgd s x t ho base e i0 z sz bytes ht hi hz0 hz1 hz2 hz hsz v n xs hs (HO.alloc _) ⟨W.heap.size, 0, none⟩ 1 1 cs.toList hx (by simp [hc])
    (World.news_of_block (cs := cs) (t := e) (fr := (0, 0)) (heap_alloc W _).1) h1 (by simp only [maxLen]; omega) hl (by simp; omega) ?_
  intro v1 w1 hown hg _ _
  exact h v1 w1 hown (World.grownBy.trans (World.grownBy_alloc W _ _) hg)

theorem grownBy_drew (w : World) (r : Option Nat) : w.grownBy w.drew r := ⟨rfl, rfl, rfl, Nat.le_refl _, fun _ _ _ => rfl⟩
/-- The same, where two orders were drawn since. -/
theorem app_ownD {P : Program} {ops : Array Oper} {rest : List Oper} {o : Oper} {a : Act} {Q : Exit → Act → World → Prop} {W : World} (base : Nat) {s x : Operand} (t : TypeId) {e : TypeId} (z : Value) (sz bytes : Nat) (n : Nat)
    (hgd : o.guard = none) (ho : o.op = .call { callee := .builtin .append, args := #[s, x], argTypes := #[t, t] }) (ht : P.underlying t = some (.slice e)) (hinfo : (P.info? e).map (fun i => (i.zero, i.size, i.bytes)) = some (some z, sz, bytes)) (hz : z.cells.size = sz) (hsz : 0 < sz) (hb0 : 0 < bytes)
    {v : Value} {xs : List Value} {cs : Array Value} (hs : a.eval s = v) {B : Nat} (hx : a.eval x = .slice (some ⟨B, 0, none⟩) 1 1) (hB : B = W.heap.size) (hc : cs.size = sz) (h1 : ∀ u ∈ cs.toList, u.oneCell' = true)
    (HO : W.ownsRow base e sz v n xs) (hbase : base ≤ W.heap.size) (hl : (n + 1) * bytes ≤ 140737488355328)
    (h : ∀ v1 w1, w1.ownsRow base e sz v1 (n + 1) (xs ++ cs.toList) → W.grownBy w1 v.ownBlock → wpList P ops Q rest (a.put o.dst v1) w1) :
    wpList P ops Q (o :: rest) a (W.alloc (.cells cs e)).drew.drew := by
  subst hB
  obtain ⟨i0, hi, hzz⟩ := Option.map_eq_some_iff.1 hinfo
  simp only [Prod.mk.injEq] at hzz
  obtain ⟨hz0, hz1, hz2⟩ := hzz
  have hn : n + 1 ≤ 140737488355328 := Nat.le_trans (Nat.le_mul_of_pos_right _ hb0) hl
  refine wpList_append_own_at (W.alloc (.cells cs e)).drew.drew hgd s x t ho base e i0 z sz bytes ht hi hz0 hz1 hz2 hz hsz v n xs hs (HO.alloc _) ⟨W.heap.size, 0, none⟩ 1 1 cs.toList hx (by simp [hc])
    (World.news_of_block (cs := cs) (t := e) (fr := (0, 0)) (heap_alloc W _).1) h1 (by simp only [maxLen]; omega) hl (by simp [World.drew]; omega) ?_
  intro v1 w1 hown hg _ _
  exact h v1 w1 hown ((World.grownBy_alloc W _ _).trans (((grownBy_drew _ _).trans (grownBy_drew _ _)).trans hg))

/-- A row of the call's own, read. -/
theorem own_elems {w : World} {base : Nat} {e n : Nat} {v : Value} {xs : List Value} (h : w.ownsRow base e 1 v n xs) : ∃ A c, v = .slice A n c ∧ Elems w A xs := by
  obtain ⟨hl, h2⟩ := h
  rcases h2 with ⟨rfl, rfl⟩ | ⟨g, cap, cur, rfl, _, hh, hn, _, hs, ht⟩
  · refine ⟨none, 0, rfl, fun i v hi => ?_⟩
    have := (List.getElem?_eq_some_iff.1 hi).1
    omega
  · refine ⟨_, cap, rfl, fun i v hi => ⟨_, rfl, fun W hW => ?_⟩⟩
    have hg : g < w.heap.size := (Array.getElem?_eq_some_iff.1 hh).1
    have hadd : (⟨g, 0, none⟩ : Addr).add i = ⟨g, i, none⟩ := by unfold Addr.add; split <;> simp_all
    rw [hadd, Below.cell (p := ⟨g, i, none⟩) hW hg]
    simp only [World.cell?, hh]
    have hlt := (List.getElem?_eq_some_iff.1 hi).1
    rw [← ht, List.getElem?_take_of_lt (by omega)] at hi
    simpa using hi
theorem own_keep {w W : World} {base : Nat} {e sz n : Nat} {v : Value} {xs : List Value} (h : w.ownsRow base e sz v n xs) (hx : Ext w W) : W.ownsRow base e sz v n xs := by
  obtain ⟨h1, h2⟩ := h
  refine ⟨h1, ?_⟩
  rcases h2 with h2 | ⟨g, cap, cur, rfl, hg, hh, r⟩
  · exact .inl h2
  · exact .inr ⟨g, cap, cur, rfl, hg, (hx.block g (Array.getElem?_eq_some_iff.1 hh).1).trans hh, r⟩
theorem own_ext {w0 w w1 : World} {base : Nat} {e sz n : Nat} {v : Value} {xs : List Value} (h : w.ownsRow base e sz v n xs) (hb : w0.heap.size ≤ base) (hx : Ext w0 w) (hg : w.grownBy w1 v.ownBlock) : Ext w0 w1 :=
  hx.grown hg hx.size (fun k hk => by
    rcases h.2 with ⟨rfl, _⟩ | ⟨g, cap, cur, rfl, hgb, _⟩
    · simp [Value.ownBlock] at hk
    · have : g = k := by simpa [Value.ownBlock] using hk
      omega)

section
variable {P : Program} {d : Nat} {xs ys : Array Value} {f : Field} {fs : List Field} {a b : Value} {r s : Bool} {w : World}
/-- '==' of structs, field by field. -/
theorem st_nil : (Op.eqFields d xs ys []).run P w = .ok true w := by simp [Op.eqFields]
theorem st_cons (hn : (f.name == "_") = false) (ha : (part f.type xs f.offset).run P w = .ok a w) (hb : (part f.type ys f.offset).run P w = .ok b w) (he : (Op.equalIn d f.type a b).run P w = .ok r w) (hr : (Op.eqFields d xs ys fs).run P w = .ok s w) :
    (Op.eqFields d xs ys (f :: fs)).run P w = .ok (r && s) w := by
  have hne : f.name ≠ "_" := by simpa using hn
  rw [Op.eqFields]
  simp only [if_pos hne, Sem.run_bind, ha, hb, he, Result.andThen_ok]
  cases r
  · simp
  · simpa using hr
theorem st_last (hn : (f.name == "_") = false) (ha : (part f.type xs f.offset).run P w = .ok a w) (hb : (part f.type ys f.offset).run P w = .ok b w) (he : (Op.equalIn d f.type a b).run P w = .ok r w) : (Op.eqFields d xs ys [f]).run P w = .ok r w := by
  have := st_cons hn ha hb he st_nil
  rwa [Bool.and_true] at this
theorem st_of {t : TypeId} {fs : Array Field} (hu : P.underlying t = some (.struct fs)) (hp : P.stoodInHeld t = false) (h : (Op.eqFields d xs ys fs.toList).run P w = .ok r w) : (Op.equalIn (d + 1) t (.agg xs) (.agg ys)).run P w = .ok r w := by
  have hf : P.fieldsOf t = fs := by simp [Program.fieldsOf, hu]
  rw [run_equalIn_struct (P := P) w d t xs ys (by rw [hf]; exact hu) hp, hf]
  exact h
end
end Go.Proofs.Ytffbomfhihhmhaa.Base
