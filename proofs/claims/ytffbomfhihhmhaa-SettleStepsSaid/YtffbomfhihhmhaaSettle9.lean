/- Package settle: Within over its iterator. -/
import Derived.Test.YtffbomfhihhmhaaSettle8
set_option linter.unusedSimpArgs false
set_option linter.unusedVariables false
namespace Go.Proofs.Ytffbomfhihhmhaa.Settle
open Go Go.RowKit Go.Shelf Go.Proofs.Ytffbomfhihhmhaa.Ord Go.Proofs.Ytffbomfhihhmhaa.OrdI Go.Proofs.Ytffbomfhihhmhaa.Base
attribute [local go_sem] Oper.semAt_some

theorem all2_zip {p : Ch → Ch → Bool} : ∀ {a b : List Ch}, a.length = b.length → all2 p a b = (a.zip b).all (fun q => p q.1 q.2)
  | [], [], _ => rfl
  | [], _ :: _, h => by simp at h
  | _ :: _, [], h => by simp at h
  | x :: a, y :: b, h => by simp [all2, all2_zip (a := a) (b := b) (by simpa using h)]

/-- The four numbers of a pair that are looked at, in its box. -/
def PBox (W : World) (B : Nat) (x : Ch × Ch) : Prop :=
  W.cell? ⟨B, 2, none⟩ = some (.int .i64 x.1.lo) ∧ W.cell? ⟨B, 3, none⟩ = some (.int .i64 x.1.hi) ∧ W.cell? ⟨B, 7, none⟩ = some (.int .i64 x.2.lo) ∧ W.cell? ⟨B, 8, none⟩ = some (.int .i64 x.2.hi)

/-- Whether all pairs lie within. -/
def AllW (v : Bool) (pre : List (Ch × Ch)) : Prop := (pre.all fun q => wq q.1 q.2) = v
theorem AllW.out {v : Bool} {pre : List (Ch × Ch)} (h : AllW v pre) : (pre.all fun q => wq q.1 q.2) = v := h
theorem all_no {pre : List (Ch × Ch)} {x : Ch × Ch} (h : x.2.lo < x.1.lo ∨ x.1.hi < x.2.hi) : AllW false (pre ++ [x]) := by
  unfold AllW
  rw [List.all_append, Bool.and_eq_false_iff]
  right
  simp only [List.all_cons, List.all_nil, Bool.and_true, wq]
  rcases h with h | h <;> simp [h]
theorem all_yes {pre : List (Ch × Ch)} {x : Ch × Ch} (hp : AllW true pre) (h1 : x.1.lo ≤ x.2.lo) (h2 : x.2.hi ≤ x.1.hi) : AllW true (pre ++ [x]) := by
  unfold AllW
  rw [List.all_append, hp.out]
  simp only [List.all_cons, List.all_nil, Bool.and_true, wq, Bool.true_and]
  simp
  omega

set_option maxRecDepth 100000 in
set_option maxHeartbeats 4000000 in
theorem within_calls (a b : List Ch) (A B : Option Addr) (c d Bo Bn : Nat) (u w : World) (hlen : a.length = b.length) (la : a.length ≤ 64) (hA : RowsOf u 5 Ch.cells A a) (hB : RowsOf u 5 Ch.cells B b)
    (hx : Ext u w) (lo : Bo < w.heap.size) (lw : Bn < w.heap.size) (ho : w.cell? ⟨Bo, 0, none⟩ = some (.slice A a.length c)) (hw : w.cell? ⟨Bn, 0, none⟩ = some (.slice B b.length d)) :
    Calls Try.prog 21 #[.func (.func 32) #[] #[.pointer (some ⟨Bo, 0, none⟩), .pointer (some ⟨Bn, 0, none⟩)]] w fun e w' => e = .returned (.bool (all2 wq a b)) ∧ Ext w w' := by
  have HV := Lib.hid (all2_zip (p := wq) hlen)
  have hseq := iter_stops a b A B c d Bo Bn u w hlen la hA hB hx lo lw ho hw
  clear ho hw hA hB
  have hro : Fence.wide.round = none := rfl
  refine (callsIn_wide (n := 3)).1 ?_
  refine callsIn_of_wp_marks Try.func21 rfl trivial ?_ hro
  simp only [Try.ntmps21, List.size_toArray, List.length_cons, List.length_nil, Nat.reduceAdd, Nat.reduceSub, Array.replicate_succ, Array.replicate_zero, List.push_toArray, List.append_toArray, List.nil_append, List.cons_append]
  gi_wp2
  have bR := Boxed.new w 4 (.bool false)
  have hB0 : Below w.heap.size w (w.alloc (.cells #[.bool false] 4)) := (Below.refl _ w).alloc (Nat.le_refl _) _
  refine wpIn_rangeFunc_ownH hro (by omega) (gf := 32) (lb := #[.pointer (some ⟨Bo, 0, none⟩), .pointer (some ⟨Bn, 0, none⟩)]) rfl trivial (enters_of Try.func32 (by kernel_rfl) rfl)
    hseq belowK_t (belowK_b (by simp)) hB0 (fun _ => rfl)
    (fun pre W => (AllW true pre ∧ Boxed W w.heap.size 4 (.bool false)) ∧ Below w.heap.size w W)
    (fun c pre W => ((c = .ret ∧ AllW false pre) ∧ Boxed W w.heap.size 4 (.bool false)) ∧ Below w.heap.size w W)
    (OwnFrom.and (OwnFrom.and (ownFrom_pure _ _) (Own.from (boxed_own _ _ _) _)) (ownFrom_below (Nat.le_refl _) (by simp)))
    (fun c => OwnFrom.and (OwnFrom.and (ownFrom_pure _ _) (Own.from (boxed_own _ _ _) _)) (ownFrom_below (Nat.le_refl _) (by simp)))
    ⟨⟨rfl, bR⟩, hB0⟩
    (fun x a' W => ∃ Bx, w.heap.size < Bx ∧ PBox W Bx x ∧ a' = { tmps := #[.func (.func 32) #[] #[.pointer (some ⟨Bo, 0, none⟩), .pointer (some ⟨Bn, 0, none⟩)], undef, .pointer (some ⟨w.heap.size, 0, none⟩), .pointer (some ⟨Bx, 0, none⟩), .func (.func 32) #[] #[.pointer (some ⟨Bo, 0, none⟩), .pointer (some ⟨Bn, 0, none⟩)], pairV x, undef, undef, undef, undef, undef, undef, undef, undef, undef, undef, undef, undef, undef, undef, undef, undef, undef, undef, undef, undef], defers := [] })
    (fun x a' _ X Y row hs hg hr => by
      obtain ⟨Bx, h1, ⟨h2, h3, h4, h5⟩, h6⟩ := hs
      have hr' : ∀ r, row = some r → ∃ o : Obj, X.heap[r]? = some o ∧ o.isCells = false := fun r e => (hr r e).2
      exact ⟨Bx, h1, ⟨cell_kept h2 hg hr', cell_kept h3 hg hr', cell_kept h4 hg hr', cell_kept h5 hg hr'⟩, h6⟩)
    ?assign ?body ?done ?stop
  case assign =>
    rintro l pre x W K ⟨⟨hp, bS1⟩, hB1⟩ hK
    unfold pairV
    gi_wp2
    exact hK _ _ ((KeepsOthers.alloc _ _).from _) ((Below.refl _ W).alloc hB1.size _) ⟨⟨hp, bS1.alloc _⟩, hB1.alloc hB1.size _⟩ ⟨W.heap.size, bS1.lt, ⟨(cell_of_row _ _ 2 _ _ (0, 0) (heap_alloc_new W _)).trans rfl, (cell_of_row _ _ 3 _ _ (0, 0) (heap_alloc_new W _)).trans rfl, (cell_of_row _ _ 7 _ _ (0, 0) (heap_alloc_new W _)).trans rfl, (cell_of_row _ _ 8 _ _ (0, 0) (heap_alloc_new W _)).trans rfl⟩, rfl⟩
  case body =>
    rintro l pre x a' W hl ⟨r, hr⟩ ⟨⟨hp, bS1⟩, hB1⟩ ⟨Bx, hBx, ⟨p1, p2, p3, p4⟩, rfl⟩ hlt
    have cS := bS1.cell
    have fS := bS1.frozen
    gi_wp2
    · exact ⟨(KeepsOthers.setCell _ _ _).from _, ⟨⟨rfl, all_no (by omega)⟩, bS1.set _⟩, hB1.setCell (p := ⟨w.heap.size, 0, none⟩) (Nat.le_refl _) _⟩
    · exact ⟨KeepsFrom.refl _ _, Below.refl _ _, ⟨all_yes hp (by omega) (by omega), bS1⟩, hB1⟩
    · exact ⟨(KeepsOthers.setCell _ _ _).from _, ⟨⟨rfl, all_no (by omega)⟩, bS1.set _⟩, hB1.setCell (p := ⟨w.heap.size, 0, none⟩) (Nat.le_refl _) _⟩
  case done =>
    rintro D zs W hD rfl ⟨⟨hp, bS1⟩, hB1⟩ hK
    have cS := bS1.cell
    have fS := bS1.frozen
    gi_wp2
    have hK' := (KeepsOthers.setCell W ⟨w.heap.size, 0, none⟩ (.bool true)).same D _ hK rfl
    refine ⟨by simp, .inl ⟨_, _, rfl, run_takeDeferred hK', ?_⟩⟩
    have hc5 := cell_kept (bS1.set (.bool true)).cell (grownBy_putObj' _ D (.deferred none)) (fun r e => by cases e; exact ⟨_, hK', rfl⟩)
    refine ⟨.bool true, ?_, by rw [HV.out, hp.out], (hB1.setCell (p := ⟨w.heap.size, 0, none⟩) (Nat.le_refl _) _).trans (belowK_b (w := w) (Nat.le_refl _) _ D _ _ (by simp at hD; omega) hK' rfl rfl)⟩
    simp [results, Try.f21, go_sem, hc5]
  case stop =>
    rintro D c pre W hD hpre ⟨⟨⟨rfl, hp⟩, bS1⟩, hB1⟩ hK
    have cS := bS1.cell
    gi_wp2
    refine ⟨by simp, .inl ⟨_, _, rfl, run_takeDeferred hK, ?_⟩⟩
    have hc5 := cell_kept cS (grownBy_putObj' _ D (.deferred none)) (fun r e => by cases e; exact ⟨_, hK, rfl⟩)
    have hv : all2 wq a b = false := by
      obtain ⟨r, hr⟩ := hpre
      rw [HV.out, ← hr, List.all_append, hp.out]
      rfl
    refine ⟨.bool false, ?_, by rw [hv], hB1.trans (belowK_b (w := w) (Nat.le_refl _) W D _ _ (by simp at hD; omega) hK rfl rfl)⟩
    simp [results, Try.f21, go_sem, hc5]

set_option maxHeartbeats 1000000 in
theorem Within_calls (a b : List Ch) (A B : Option Addr) (c d : Nat) (w : World) (ha : a.length ≤ 9223372036854775807) (hb : b.length ≤ 9223372036854775807)
    (hA : RowsOf w 5 Ch.cells A a) (hB : RowsOf w 5 Ch.cells B b) :
    Calls Try.prog 14 #[.slice A a.length c, .slice B b.length d] w fun e w' => e = .returned (withinV a b) ∧ Ext w w' := by
  by_cases hall : (!charges a || !charges b || !all2 hq a b) = true
  · have HV2 : Hid (withinV a b = .tuple #[.bool false, .int .i64 1]) := by unfold Hid withinV; rw [hall]; rfl
    have c1 := pairs_no a b A B c d w ha hb hA hB hall
    clear hall
    go_enter Try.func14, Try.ntmps14
    go_wp2_with fail
    refine c1.mono ?_
    rintro e w1 ⟨rfl, hx1⟩
    go_wp2_with fail
    go_ret2
    exact ⟨by rw [HV2.out]; rfl, hx1⟩
  · have HA : Hid (charges a = true ∧ charges b = true ∧ all2 hq a b = true) := by unfold Hid; simpa [and_assoc] using hall
    have HV2 : Hid (withinV a b = .tuple #[.bool (all2 wq a b), .int .i64 0]) := by unfold Hid withinV; rw [if_neg hall]
    have hlen := all2_eq_len HA.out.2.2
    have la := (charges_right HA.out.1).1
    have c1 := pairs_yes a b A B c d w ha hb hA hB HA.out.1 HA.out.2.1 HA.out.2.2
    have c2 := fun w1 (h : Ext w w1) h1 h2 h3 h4 => within_calls a b A B c d w.heap.size (w.heap.size + 1) w w1 hlen la hA hB h h1 h2 h3 h4
    clear hall hlen la
    go_enter Try.func14, Try.ntmps14
    go_wp2_with fail
    refine c1.mono ?_
    rintro e w1 ⟨rfl, hx1, hs1, q0, q1⟩
    have c3 := c2 w1 hx1 (by omega) (by omega) q0 q1
    go_wp2_with fail
    refine c3.mono ?_
    rintro e w2 ⟨rfl, hx2⟩
    go_wp2_with fail
    go_ret2
    exact ⟨by rw [HV2.out]; rfl, hx1.trans hx2⟩
end Go.Proofs.Ytffbomfhihhmhaa.Settle
