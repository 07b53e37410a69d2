-- Written by a program of this session out of the translation (wip/pp: the kit's print, turned). Not trusted: Lean checks it.
import Derived.Test.YtkdckjafhaadiaaDoorPx0
import Derived.Test.YtkdckjafhaadiaaDoorPx6
import Derived.Test.YtkdckjafhaadiaaDoorPx7
namespace Go.Proofs.YtkdckjafhaadiaaDoor.P
open Go.RowKit Go.Proofs.YtkdckjafhaadiaaDoorW.PrintWords Go.Proofs.YtkdckjafhaadiaaDoorW.PrintLast Go.Proofs.YtkdckjafhaadiaaDoorW.PrintMore
attribute [local go_sem] max2_int min2_int max_two min_two max_three min_three max_four min_four   -- for this text's walks alone
set_option linter.unusedVariables false
set_option linter.unusedSimpArgs false

/-! ### cohousingref43_Same: function 23 -/
def cohousingref43_Same.j0 : Nat → Bool → Int → Int → Int → Int → List (S50) → List Int → Int → Int → Int → Int → List (S50) → List Int → Option (Bool)
 | 0, _, _, _, _, _, _, _, _, _, _, _, _, _ => none
 | k + 1, x30, x195000, x195001, x195002, x195003, x195004, x195005, x196000, x196001, x196002, x196003, x196004, x196005 => if x30 = true then (some false) else ((cohousingref43_SameLines.f k x195004 x196004).bind fun t196 => (if t196 = true then ((cohousingref06_Same.f k x195005 x196005).bind fun t197 => (some t197)) else (some false)))
def cohousingref43_Same.f (k : Nat) (a0_0 : Int) (a0_1 : Int) (a0_2 : Int) (a0_3 : Int) (l0_4 : List (S50)) (l0_5 : List Int) (a1_0 : Int) (a1_1 : Int) (a1_2 : Int) (a1_3 : Int) (l1_4 : List (S50)) (l1_5 : List Int) : Option (Bool) := if a0_0 = a1_0 then (if a0_1 = a1_1 then (if a0_2 = a1_2 then (cohousingref43_Same.j0 k (a0_3 != a1_3) a0_0 a0_1 a0_2 a0_3 l0_4 l0_5 a1_0 a1_1 a1_2 a1_3 l1_4 l1_5) else (cohousingref43_Same.j0 k true a0_0 a0_1 a0_2 a0_3 l0_4 l0_5 a1_0 a1_1 a1_2 a1_3 l1_4 l1_5)) else (cohousingref43_Same.j0 k true a0_0 a0_1 a0_2 a0_3 l0_4 l0_5 a1_0 a1_1 a1_2 a1_3 l1_4 l1_5)) else (cohousingref43_Same.j0 k true a0_0 a0_1 a0_2 a0_3 l0_4 l0_5 a1_0 a1_1 a1_2 a1_3 l1_4 l1_5)
theorem cohousingref43_Same.mono_l : ∀ k, (∀ y0 y1 y2 y3 y4 y5 y6 y7 y8 y9 y10 y11 y12, LeO (cohousingref43_Same.j0 k y0 y1 y2 y3 y4 y5 y6 y7 y8 y9 y10 y11 y12) (cohousingref43_Same.j0 (k + 1) y0 y1 y2 y3 y4 y5 y6 y7 y8 y9 y10 y11 y12))
 | 0 => fun _ _ _ _ _ _ _ _ _ _ _ _ _ r h => by simp [cohousingref43_Same.j0] at h
 | k + 1 => by
  have ih0 := cohousingref43_Same.mono_l k
  ·intro y0 y1 y2 y3 y4 y5 y6 y7 y8 y9 y10 y11 y12
   unfold cohousingref43_Same.j0
   repeat' first
   | (with_reducible exact ih0 _ _ _ _ _ _ _ _ _ _ _ _ _)
   | (with_reducible exact cohousingref06_Same.mono _ _ _)
   | (with_reducible exact cohousingref43_SameLines.mono _ _ _)
   | (with_reducible exact LeO.refl _)
   | (with_reducible exact LeO.none _)
   | (with_reducible refine LeO.ite ?_ ?_)
   | (with_reducible refine LeO.bind ?_ (fun _ => ?_))
   | exact ih0 _ _ _ _ _ _ _ _ _ _ _ _ _
   | exact cohousingref06_Same.mono _ _ _
   | exact cohousingref43_SameLines.mono _ _ _
   | exact LeO.none _
   | refine LeO.ite ?_ ?_
   | refine LeO.bind ?_ (fun _ => ?_)
theorem cohousingref43_Same.mono : ∀ a0 a1 a2 a3 a4 a5 a6 a7 a8 a9 a10 a11 k, LeO (cohousingref43_Same.f k a0 a1 a2 a3 a4 a5 a6 a7 a8 a9 a10 a11) (cohousingref43_Same.f (k + 1) a0 a1 a2 a3 a4 a5 a6 a7 a8 a9 a10 a11) := by
 intro a0 a1 a2 a3 a4 a5 a6 a7 a8 a9 a10 a11 k
 have ih0 := cohousingref43_Same.mono_l k
 unfold cohousingref43_Same.f
 repeat' first
   | (with_reducible exact ih0 _ _ _ _ _ _ _ _ _ _ _ _ _)
   | (with_reducible exact cohousingref06_Same.mono _ _ _)
   | (with_reducible exact cohousingref43_SameLines.mono _ _ _)
   | (with_reducible exact LeO.refl _)
   | (with_reducible exact LeO.none _)
   | (with_reducible refine LeO.ite ?_ ?_)
   | (with_reducible refine LeO.bind ?_ (fun _ => ?_))
   | exact ih0 _ _ _ _ _ _ _ _ _ _ _ _ _
   | exact cohousingref06_Same.mono _ _ _
   | exact cohousingref43_SameLines.mono _ _ _
   | exact LeO.none _
   | refine LeO.ite ?_ ?_
   | refine LeO.bind ?_ (fun _ => ?_)
set_option maxHeartbeats 8000000 in
set_option maxRecDepth 100000 in
theorem cohousingref43_Same.calls (k : Nat) (a0_0 : Int) (a0_1 : Int) (a0_2 : Int) (a0_3 : Int) (A0_4 : Option Addr) (c0_4 : Nat) (l0_4 : List (S50)) (A0_5 : Option Addr) (c0_5 : Nat) (l0_5 : List Int) (a1_0 : Int) (a1_1 : Int) (a1_2 : Int) (a1_3 : Int) (A1_4 : Option Addr) (c1_4 : Nat) (l1_4 : List (S50)) (A1_5 : Option Addr) (c1_5 : Nat) (l1_5 : List Int) (r : Bool) (w : World) (hr0_4 : Kd.C k50 w A0_4 l0_4.length l0_4) (hc0_4 : l0_4.length ≤ c0_4) (hr0_5 : Kd.C (Kd.int .u64) w A0_5 l0_5.length l0_5) (hc0_5 : l0_5.length ≤ c0_5) (hr1_4 : Kd.C k50 w A1_4 l1_4.length l1_4) (hc1_4 : l1_4.length ≤ c1_4) (hr1_5 : Kd.C (Kd.int .u64) w A1_5 l1_5.length l1_5) (hc1_5 : l1_5.length ≤ c1_5) (h : cohousingref43_Same.f k a0_0 a0_1 a0_2 a0_3 l0_4 l0_5 a1_0 a1_1 a1_2 a1_3 l1_4 l1_5 = some r) :
  Calls Tryd.prog 23 #[.agg #[.int .i64 a0_0, .int .i64 a0_1, .int .i64 a0_2, .int .i64 a0_3, .slice A0_4 l0_4.length c0_4, .slice A0_5 l0_5.length c0_5], .agg #[.int .i64 a1_0, .int .i64 a1_1, .int .i64 a1_2, .int .i64 a1_3, .slice A1_4 l1_4.length c1_4, .slice A1_5 l1_5.length c1_5]] w fun e w' => e = .returned (.bool r) ∧ Below w.heap.size w w' := by
 have hu35 := Tryd.underlying35
 have HR0_4 := Aside0.mk hr0_4
 have HC0_4 := Aside0.mk hc0_4
 clear hr0_4 hc0_4
 have HR0_5 := Aside0.mk hr0_5
 have HC0_5 := Aside0.mk hc0_5
 clear hr0_5 hc0_5
 have HR1_4 := Aside0.mk hr1_4
 have HC1_4 := Aside0.mk hc1_4
 clear hr1_4 hc1_4
 have HR1_5 := Aside0.mk hr1_5
 have HC1_5 := Aside0.mk hc1_5
 clear hr1_5 hc1_5
 have HB := Aside0.mk (Below.refl w.heap.size w)
 have H : (if a0_0 = a1_0 then (if a0_1 = a1_1 then (if a0_2 = a1_2 then (cohousingref43_Same.j0 k (a0_3 != a1_3) a0_0 a0_1 a0_2 a0_3 l0_4 l0_5 a1_0 a1_1 a1_2 a1_3 l1_4 l1_5) else (cohousingref43_Same.j0 k true a0_0 a0_1 a0_2 a0_3 l0_4 l0_5 a1_0 a1_1 a1_2 a1_3 l1_4 l1_5)) else (cohousingref43_Same.j0 k true a0_0 a0_1 a0_2 a0_3 l0_4 l0_5 a1_0 a1_1 a1_2 a1_3 l1_4 l1_5)) else (cohousingref43_Same.j0 k true a0_0 a0_1 a0_2 a0_3 l0_4 l0_5 a1_0 a1_1 a1_2 a1_3 l1_4 l1_5)) = some r := h
 clear h
 have HC3 := Aside0.mk H
 clear H
 go_enter Tryd.func23, Tryd.ntmps23
 go_upto_region 1 with (first | ((with_reducible refine gate_dst (N := 2) rfl ?_); refine box_event ?hg (N := 2) ?hd (cs := #[.int .i64 a0_0, .int .i64 a0_1, .int .i64 a0_2, .int .i64 a0_3, .slice A0_4 l0_4.length c0_4, .slice A0_5 l0_5.length c0_5]) (t := 35) ?hr ?_; (case hd => rfl); (case hg => rfl); (case hr => first | (go_simp; done) | (go_simp; rfl)); intro gb194 hg w4 hbox hb; have n0_ := Aside0.mk (below_step (by repeat (first | (with_reducible first | exact HB.out | apply below_alloc | apply pw_below_drewN | apply below_drew1) | exact HB.out)) hb); have n1_ := Aside0.mk (hbox); have n2_ := Aside0.mk ((by rw [hg]; exact (below_size (by repeat (first | (with_reducible first | exact HB.out | apply below_alloc | apply pw_below_drewN | apply below_drew1) | exact HB.out))) : w.heap.size ≤ gb194)); have n3_ := Aside0.mk ((by rw [hg]; exact (below_size (by repeat (first | (with_reducible first | exact HB.out | apply below_alloc | apply pw_below_drewN | apply below_drew1) | exact HB.out))) : w.heap.size ≤ gb194)); clear HB; have HB := n0_; have BK194 := n1_; have GW194 := n2_; have GE194 := n3_; clear n0_ n1_ n2_ n3_; clear hb hbox hg) | ((with_reducible refine gate_dst (N := 3) rfl ?_); refine box_event ?hg (N := 3) ?hd (cs := #[.int .i64 a1_0, .int .i64 a1_1, .int .i64 a1_2, .int .i64 a1_3, .slice A1_4 l1_4.length c1_4, .slice A1_5 l1_5.length c1_5]) (t := 35) ?hr ?_; (case hd => rfl); (case hg => rfl); (case hr => first | (go_simp; done) | (go_simp; rfl)); intro gb195 hg w5 hbox hb; have n0_ := Aside0.mk (blk_below (g := gb194) (o := .cells #[.int .i64 a0_0, .int .i64 a0_1, .int .i64 a0_2, .int .i64 a0_3, .slice A0_4 l0_4.length c0_4, .slice A0_5 l0_5.length c0_5] 35 (0, 0)) (by (with_reducible repeat (first | refine blk_drewN ?_ _ | refine blk_drew ?_ | refine blk_alloc ?_ _)); exact BK194.out) hb); have n1_ := Aside0.mk (below_step (by repeat (first | (with_reducible first | exact HB.out | apply below_alloc | apply pw_below_drewN | apply below_drew1 | refine below_set ?_ GE194.out) | exact HB.out)) hb); have n2_ := Aside0.mk (hbox); have n3_ := Aside0.mk ((by rw [hg]; exact (below_size (by repeat (first | (with_reducible first | exact HB.out | apply below_alloc | apply pw_below_drewN | apply below_drew1 | refine below_set ?_ GE194.out) | exact HB.out))) : w.heap.size ≤ gb195)); have n4_ := Aside0.mk ((by rw [hg]; exact (below_size (by repeat (first | (with_reducible first | exact HB.out | apply below_alloc | apply pw_below_drewN | apply below_drew1 | refine below_set ?_ GE194.out) | exact HB.out))) : w.heap.size ≤ gb195)); have n5_ := Aside0.mk ((by rw [hg]; exact Nat.ne_of_lt (blk_lt (g := gb194) (o := .cells #[.int .i64 a0_0, .int .i64 a0_1, .int .i64 a0_2, .int .i64 a0_3, .slice A0_4 l0_4.length c0_4, .slice A0_5 l0_5.length c0_5] 35 (0, 0)) (by (with_reducible repeat (first | refine blk_drewN ?_ _ | refine blk_drew ?_ | refine blk_alloc ?_ _)); exact BK194.out)) : gb194 ≠ gb195)); have n6_ := Aside0.mk ((by rw [hg]; exact Nat.ne_of_gt (blk_lt (g := gb194) (o := .cells #[.int .i64 a0_0, .int .i64 a0_1, .int .i64 a0_2, .int .i64 a0_3, .slice A0_4 l0_4.length c0_4, .slice A0_5 l0_5.length c0_5] 35 (0, 0)) (by (with_reducible repeat (first | refine blk_drewN ?_ _ | refine blk_drew ?_ | refine blk_alloc ?_ _)); exact BK194.out)) : gb195 ≠ gb194)); clear BK194; clear HB; have BK194 := n0_; have HB := n1_; have BK195 := n2_; have GW195 := n3_; have GE195 := n4_; have NB194_195 := n5_; have NB195_194 := n6_; clear n0_ n1_ n2_ n3_ n4_ n5_ n6_; clear hb hbox hg))
 (try simp only [Act.put, List.setIfInBounds_toArray, List.set_cons_zero, List.set_cons_succ])
 go_cut [30] (fun v30 wc => ∃ (kq : Nat) (x30_2 : Bool), v30 = .bool x30_2 ∧ Aside0 (cohousingref43_Same.j0 kq x30_2 a0_0 a0_1 a0_2 a0_3 l0_4 l0_5 a1_0 a1_1 a1_2 a1_3 l1_4 l1_5 = some r) ∧ Aside0 (kq ≤ k) ∧ Aside0 (wc.heap[gb194]? = some (.cells #[.int .i64 a0_0, .int .i64 a0_1, .int .i64 a0_2, .int .i64 a0_3, (.slice A0_4 l0_4.length c0_4), (.slice A0_5 l0_5.length c0_5)] 35 (0, 0))) ∧ Aside0 (wc.heap[gb195]? = some (.cells #[.int .i64 a1_0, .int .i64 a1_1, .int .i64 a1_2, .int .i64 a1_3, (.slice A1_4 l1_4.length c1_4), (.slice A1_5 l1_5.length c1_5)] 35 (0, 0))) ∧ Aside0 (Below w.heap.size w wc))
 case first =>
  have H := HC3.out
  clear HC3
  by_cases c6 : a0_0 = a1_0
  ·rw [if_pos c6] at H
   have c6b0 : (a0_0 == a1_0) = true := beq_iff_eq.mpr c6
   have c6b1 : (a0_0 != a1_0) = false := bne_eq_false_iff_eq.mpr c6
   clear c6
   (first | rw [c6b0] | (simp only [i64_w, i32_w]; rw [c6b0]) | skip)
   by_cases c7 : a0_1 = a1_1
   ·rw [if_pos c7] at H
    have c7b0 : (a0_1 == a1_1) = true := beq_iff_eq.mpr c7
    have c7b1 : (a0_1 != a1_1) = false := bne_eq_false_iff_eq.mpr c7
    clear c7
    by_cases c8 : a0_2 = a1_2
    ·rw [if_pos c8] at H
     have c8b0 : (a0_2 == a1_2) = true := beq_iff_eq.mpr c8
     have c8b1 : (a0_2 != a1_2) = false := bne_eq_false_iff_eq.mpr c8
     clear c8
     have H' := Aside0.mk H
     clear H
     have hnb9 := NB194_195.out
     have hnc9 := NB195_194.out
     have hcz10_0 : w5.cell? ⟨gb194, 0, none⟩ = some (.int .i64 a0_0) := (blk_cell BK194.out 0).trans rfl
     have hcz10_1 : w5.cell? ⟨gb194, 1, none⟩ = some (.int .i64 a0_1) := (blk_cell BK194.out 1).trans rfl
     have hcz10_2 : w5.cell? ⟨gb194, 2, none⟩ = some (.int .i64 a0_2) := (blk_cell BK194.out 2).trans rfl
     have hcz10_3 : w5.cell? ⟨gb194, 3, none⟩ = some (.int .i64 a0_3) := (blk_cell BK194.out 3).trans rfl
     have hcz10_4 : w5.cell? ⟨gb194, 4, none⟩ = some (.slice A0_4 l0_4.length c0_4) := (blk_cell BK194.out 4).trans rfl
     have hcz10_5 : w5.cell? ⟨gb194, 5, none⟩ = some (.slice A0_5 l0_5.length c0_5) := (blk_cell BK194.out 5).trans rfl
     have hfz10_0 := blk_frozen BK194.out 0
     have hfz10_1 := blk_frozen BK194.out 1
     have hfz10_2 := blk_frozen BK194.out 2
     have hfz10_3 := blk_frozen BK194.out 3
     have hfz10_4 := blk_frozen BK194.out 4
     have hfz10_5 := blk_frozen BK194.out 5
     have hcz11_0 : w5.cell? ⟨gb195, 0, none⟩ = some (.int .i64 a1_0) := (blk_cell BK195.out 0).trans rfl
     have hcz11_1 : w5.cell? ⟨gb195, 1, none⟩ = some (.int .i64 a1_1) := (blk_cell BK195.out 1).trans rfl
     have hcz11_2 : w5.cell? ⟨gb195, 2, none⟩ = some (.int .i64 a1_2) := (blk_cell BK195.out 2).trans rfl
     have hcz11_3 : w5.cell? ⟨gb195, 3, none⟩ = some (.int .i64 a1_3) := (blk_cell BK195.out 3).trans rfl
     have hcz11_4 : w5.cell? ⟨gb195, 4, none⟩ = some (.slice A1_4 l1_4.length c1_4) := (blk_cell BK195.out 4).trans rfl
     have hcz11_5 : w5.cell? ⟨gb195, 5, none⟩ = some (.slice A1_5 l1_5.length c1_5) := (blk_cell BK195.out 5).trans rfl
     have hfz11_0 := blk_frozen BK195.out 0
     have hfz11_1 := blk_frozen BK195.out 1
     have hfz11_2 := blk_frozen BK195.out 2
     have hfz11_3 := blk_frozen BK195.out 3
     have hfz11_4 := blk_frozen BK195.out 4
     have hfz11_5 := blk_frozen BK195.out 5
     go_wp2
     go_meet
     case rel => exact ⟨_, ((a0_3 != a1_3)), (by first | rfl | (simp; done) | (simp [*]; done)), H', ⟨by first | omega | exact Nat.le_refl _⟩, ⟨by (with_reducible repeat (first | refine blk_drewN ?_ _ | refine blk_drew ?_ | refine blk_alloc ?_ _)); exact BK194.out⟩, ⟨by (with_reducible repeat (first | refine blk_drewN ?_ _ | refine blk_drew ?_ | refine blk_alloc ?_ _)); exact BK195.out⟩, ⟨by repeat (first | (with_reducible first | exact HB.out | apply below_alloc | apply pw_below_drewN | apply below_drew1 | refine below_set ?_ GE194.out | refine below_set ?_ GE195.out) | exact HB.out)⟩⟩
    ·rw [if_neg c8] at H
     have c8b0 : (a0_2 == a1_2) = false := beq_eq_false_iff_ne.mpr c8
     have c8b1 : (a0_2 != a1_2) = true := bne_iff_ne.mpr c8
     have H' := Aside0.mk H
     clear H
     have hnb12 := NB194_195.out
     have hnc12 := NB195_194.out
     have hcz13_0 : w5.cell? ⟨gb194, 0, none⟩ = some (.int .i64 a0_0) := (blk_cell BK194.out 0).trans rfl
     have hcz13_1 : w5.cell? ⟨gb194, 1, none⟩ = some (.int .i64 a0_1) := (blk_cell BK194.out 1).trans rfl
     have hcz13_2 : w5.cell? ⟨gb194, 2, none⟩ = some (.int .i64 a0_2) := (blk_cell BK194.out 2).trans rfl
     have hcz13_3 : w5.cell? ⟨gb194, 3, none⟩ = some (.int .i64 a0_3) := (blk_cell BK194.out 3).trans rfl
     have hcz13_4 : w5.cell? ⟨gb194, 4, none⟩ = some (.slice A0_4 l0_4.length c0_4) := (blk_cell BK194.out 4).trans rfl
     have hcz13_5 : w5.cell? ⟨gb194, 5, none⟩ = some (.slice A0_5 l0_5.length c0_5) := (blk_cell BK194.out 5).trans rfl
     have hfz13_0 := blk_frozen BK194.out 0
     have hfz13_1 := blk_frozen BK194.out 1
     have hfz13_2 := blk_frozen BK194.out 2
     have hfz13_3 := blk_frozen BK194.out 3
     have hfz13_4 := blk_frozen BK194.out 4
     have hfz13_5 := blk_frozen BK194.out 5
     have hcz14_0 : w5.cell? ⟨gb195, 0, none⟩ = some (.int .i64 a1_0) := (blk_cell BK195.out 0).trans rfl
     have hcz14_1 : w5.cell? ⟨gb195, 1, none⟩ = some (.int .i64 a1_1) := (blk_cell BK195.out 1).trans rfl
     have hcz14_2 : w5.cell? ⟨gb195, 2, none⟩ = some (.int .i64 a1_2) := (blk_cell BK195.out 2).trans rfl
     have hcz14_3 : w5.cell? ⟨gb195, 3, none⟩ = some (.int .i64 a1_3) := (blk_cell BK195.out 3).trans rfl
     have hcz14_4 : w5.cell? ⟨gb195, 4, none⟩ = some (.slice A1_4 l1_4.length c1_4) := (blk_cell BK195.out 4).trans rfl
     have hcz14_5 : w5.cell? ⟨gb195, 5, none⟩ = some (.slice A1_5 l1_5.length c1_5) := (blk_cell BK195.out 5).trans rfl
     have hfz14_0 := blk_frozen BK195.out 0
     have hfz14_1 := blk_frozen BK195.out 1
     have hfz14_2 := blk_frozen BK195.out 2
     have hfz14_3 := blk_frozen BK195.out 3
     have hfz14_4 := blk_frozen BK195.out 4
     have hfz14_5 := blk_frozen BK195.out 5
     go_wp2
     go_meet
     case rel => exact ⟨_, (true), (by first | rfl | (simp; done) | (simp [*]; done)), H', ⟨by first | omega | exact Nat.le_refl _⟩, ⟨by (with_reducible repeat (first | refine blk_drewN ?_ _ | refine blk_drew ?_ | refine blk_alloc ?_ _)); exact BK194.out⟩, ⟨by (with_reducible repeat (first | refine blk_drewN ?_ _ | refine blk_drew ?_ | refine blk_alloc ?_ _)); exact BK195.out⟩, ⟨by repeat (first | (with_reducible first | exact HB.out | apply below_alloc | apply pw_below_drewN | apply below_drew1 | refine below_set ?_ GE194.out | refine below_set ?_ GE195.out) | exact HB.out)⟩⟩
   ·rw [if_neg c7] at H
    have c7b0 : (a0_1 == a1_1) = false := beq_eq_false_iff_ne.mpr c7
    have c7b1 : (a0_1 != a1_1) = true := bne_iff_ne.mpr c7
    have H' := Aside0.mk H
    clear H
    have hnb15 := NB194_195.out
    have hnc15 := NB195_194.out
    have hcz16_0 : w5.cell? ⟨gb194, 0, none⟩ = some (.int .i64 a0_0) := (blk_cell BK194.out 0).trans rfl
    have hcz16_1 : w5.cell? ⟨gb194, 1, none⟩ = some (.int .i64 a0_1) := (blk_cell BK194.out 1).trans rfl
    have hcz16_2 : w5.cell? ⟨gb194, 2, none⟩ = some (.int .i64 a0_2) := (blk_cell BK194.out 2).trans rfl
    have hcz16_3 : w5.cell? ⟨gb194, 3, none⟩ = some (.int .i64 a0_3) := (blk_cell BK194.out 3).trans rfl
    have hcz16_4 : w5.cell? ⟨gb194, 4, none⟩ = some (.slice A0_4 l0_4.length c0_4) := (blk_cell BK194.out 4).trans rfl
    have hcz16_5 : w5.cell? ⟨gb194, 5, none⟩ = some (.slice A0_5 l0_5.length c0_5) := (blk_cell BK194.out 5).trans rfl
    have hfz16_0 := blk_frozen BK194.out 0
    have hfz16_1 := blk_frozen BK194.out 1
    have hfz16_2 := blk_frozen BK194.out 2
    have hfz16_3 := blk_frozen BK194.out 3
    have hfz16_4 := blk_frozen BK194.out 4
    have hfz16_5 := blk_frozen BK194.out 5
    have hcz17_0 : w5.cell? ⟨gb195, 0, none⟩ = some (.int .i64 a1_0) := (blk_cell BK195.out 0).trans rfl
    have hcz17_1 : w5.cell? ⟨gb195, 1, none⟩ = some (.int .i64 a1_1) := (blk_cell BK195.out 1).trans rfl
    have hcz17_2 : w5.cell? ⟨gb195, 2, none⟩ = some (.int .i64 a1_2) := (blk_cell BK195.out 2).trans rfl
    have hcz17_3 : w5.cell? ⟨gb195, 3, none⟩ = some (.int .i64 a1_3) := (blk_cell BK195.out 3).trans rfl
    have hcz17_4 : w5.cell? ⟨gb195, 4, none⟩ = some (.slice A1_4 l1_4.length c1_4) := (blk_cell BK195.out 4).trans rfl
    have hcz17_5 : w5.cell? ⟨gb195, 5, none⟩ = some (.slice A1_5 l1_5.length c1_5) := (blk_cell BK195.out 5).trans rfl
    have hfz17_0 := blk_frozen BK195.out 0
    have hfz17_1 := blk_frozen BK195.out 1
    have hfz17_2 := blk_frozen BK195.out 2
    have hfz17_3 := blk_frozen BK195.out 3
    have hfz17_4 := blk_frozen BK195.out 4
    have hfz17_5 := blk_frozen BK195.out 5
    go_wp2
    go_meet
    case rel => exact ⟨_, (true), (by first | rfl | (simp; done) | (simp [*]; done)), H', ⟨by first | omega | exact Nat.le_refl _⟩, ⟨by (with_reducible repeat (first | refine blk_drewN ?_ _ | refine blk_drew ?_ | refine blk_alloc ?_ _)); exact BK194.out⟩, ⟨by (with_reducible repeat (first | refine blk_drewN ?_ _ | refine blk_drew ?_ | refine blk_alloc ?_ _)); exact BK195.out⟩, ⟨by repeat (first | (with_reducible first | exact HB.out | apply below_alloc | apply pw_below_drewN | apply below_drew1 | refine below_set ?_ GE194.out | refine below_set ?_ GE195.out) | exact HB.out)⟩⟩
  ·rw [if_neg c6] at H
   have c6b0 : (a0_0 == a1_0) = false := beq_eq_false_iff_ne.mpr c6
   have c6b1 : (a0_0 != a1_0) = true := bne_iff_ne.mpr c6
   (first | rw [c6b0] | (simp only [i64_w, i32_w]; rw [c6b0]) | skip)
   have H' := Aside0.mk H
   clear H
   have hnb18 := NB194_195.out
   have hnc18 := NB195_194.out
   have hcz19_0 : w5.cell? ⟨gb194, 0, none⟩ = some (.int .i64 a0_0) := (blk_cell BK194.out 0).trans rfl
   have hcz19_1 : w5.cell? ⟨gb194, 1, none⟩ = some (.int .i64 a0_1) := (blk_cell BK194.out 1).trans rfl
   have hcz19_2 : w5.cell? ⟨gb194, 2, none⟩ = some (.int .i64 a0_2) := (blk_cell BK194.out 2).trans rfl
   have hcz19_3 : w5.cell? ⟨gb194, 3, none⟩ = some (.int .i64 a0_3) := (blk_cell BK194.out 3).trans rfl
   have hcz19_4 : w5.cell? ⟨gb194, 4, none⟩ = some (.slice A0_4 l0_4.length c0_4) := (blk_cell BK194.out 4).trans rfl
   have hcz19_5 : w5.cell? ⟨gb194, 5, none⟩ = some (.slice A0_5 l0_5.length c0_5) := (blk_cell BK194.out 5).trans rfl
   have hfz19_0 := blk_frozen BK194.out 0
   have hfz19_1 := blk_frozen BK194.out 1
   have hfz19_2 := blk_frozen BK194.out 2
   have hfz19_3 := blk_frozen BK194.out 3
   have hfz19_4 := blk_frozen BK194.out 4
   have hfz19_5 := blk_frozen BK194.out 5
   have hcz20_0 : w5.cell? ⟨gb195, 0, none⟩ = some (.int .i64 a1_0) := (blk_cell BK195.out 0).trans rfl
   have hcz20_1 : w5.cell? ⟨gb195, 1, none⟩ = some (.int .i64 a1_1) := (blk_cell BK195.out 1).trans rfl
   have hcz20_2 : w5.cell? ⟨gb195, 2, none⟩ = some (.int .i64 a1_2) := (blk_cell BK195.out 2).trans rfl
   have hcz20_3 : w5.cell? ⟨gb195, 3, none⟩ = some (.int .i64 a1_3) := (blk_cell BK195.out 3).trans rfl
   have hcz20_4 : w5.cell? ⟨gb195, 4, none⟩ = some (.slice A1_4 l1_4.length c1_4) := (blk_cell BK195.out 4).trans rfl
   have hcz20_5 : w5.cell? ⟨gb195, 5, none⟩ = some (.slice A1_5 l1_5.length c1_5) := (blk_cell BK195.out 5).trans rfl
   have hfz20_0 := blk_frozen BK195.out 0
   have hfz20_1 := blk_frozen BK195.out 1
   have hfz20_2 := blk_frozen BK195.out 2
   have hfz20_3 := blk_frozen BK195.out 3
   have hfz20_4 := blk_frozen BK195.out 4
   have hfz20_5 := blk_frozen BK195.out 5
   go_wp2
   go_meet
   case rel => exact ⟨_, (true), (by first | rfl | (simp; done) | (simp [*]; done)), H', ⟨by first | omega | exact Nat.le_refl _⟩, ⟨by (with_reducible repeat (first | refine blk_drewN ?_ _ | refine blk_drew ?_ | refine blk_alloc ?_ _)); exact BK194.out⟩, ⟨by (with_reducible repeat (first | refine blk_drewN ?_ _ | refine blk_drew ?_ | refine blk_alloc ?_ _)); exact BK195.out⟩, ⟨by repeat (first | (with_reducible first | exact HB.out | apply below_alloc | apply pw_below_drewN | apply below_drew1 | refine below_set ?_ GE194.out | refine below_set ?_ GE195.out) | exact HB.out)⟩⟩
 case rest =>
  clear HC3
  try clear c1
  try clear c2
  try clear p2
  try clear c6
  try clear c6b0
  try clear c6b1
  try clear c7
  try clear c7b0
  try clear c7b1
  try clear c8
  try clear c8b0
  try clear c8b1
  try clear c9
  try clear c12
  try clear c15
  try clear c18
  try clear hcz10_0
  try clear hcz10_1
  try clear hcz10_2
  try clear hcz10_3
  try clear hcz10_4
  try clear hcz10_5
  try clear hcz11_0
  try clear hcz11_1
  try clear hcz11_2
  try clear hcz11_3
  try clear hcz11_4
  try clear hcz11_5
  try clear hcz13_0
  try clear hcz13_1
  try clear hcz13_2
  try clear hcz13_3
  try clear hcz13_4
  try clear hcz13_5
  try clear hcz14_0
  try clear hcz14_1
  try clear hcz14_2
  try clear hcz14_3
  try clear hcz14_4
  try clear hcz14_5
  try clear hcz16_0
  try clear hcz16_1
  try clear hcz16_2
  try clear hcz16_3
  try clear hcz16_4
  try clear hcz16_5
  try clear hcz17_0
  try clear hcz17_1
  try clear hcz17_2
  try clear hcz17_3
  try clear hcz17_4
  try clear hcz17_5
  try clear hcz19_0
  try clear hcz19_1
  try clear hcz19_2
  try clear hcz19_3
  try clear hcz19_4
  try clear hcz19_5
  try clear hcz20_0
  try clear hcz20_1
  try clear hcz20_2
  try clear hcz20_3
  try clear hcz20_4
  try clear hcz20_5
  try clear hfz10_0
  try clear hfz10_1
  try clear hfz10_2
  try clear hfz10_3
  try clear hfz10_4
  try clear hfz10_5
  try clear hfz11_0
  try clear hfz11_1
  try clear hfz11_2
  try clear hfz11_3
  try clear hfz11_4
  try clear hfz11_5
  try clear hfz13_0
  try clear hfz13_1
  try clear hfz13_2
  try clear hfz13_3
  try clear hfz13_4
  try clear hfz13_5
  try clear hfz14_0
  try clear hfz14_1
  try clear hfz14_2
  try clear hfz14_3
  try clear hfz14_4
  try clear hfz14_5
  try clear hfz16_0
  try clear hfz16_1
  try clear hfz16_2
  try clear hfz16_3
  try clear hfz16_4
  try clear hfz16_5
  try clear hfz17_0
  try clear hfz17_1
  try clear hfz17_2
  try clear hfz17_3
  try clear hfz17_4
  try clear hfz17_5
  try clear hfz19_0
  try clear hfz19_1
  try clear hfz19_2
  try clear hfz19_3
  try clear hfz19_4
  try clear hfz19_5
  try clear hfz20_0
  try clear hfz20_1
  try clear hfz20_2
  try clear hfz20_3
  try clear hfz20_4
  try clear hfz20_5
  obtain ⟨kq, x30_2, rfl, HA, HJ2, BK194, BK195, HB⟩ := hcut
  cases kq with
  | zero => exact absurd HA.out (by simp [cohousingref43_Same.j0])
  | succ kj2 =>
   have H := HA.out
   clear HA
   simp only [cohousingref43_Same.j0] at H
   by_cases c21 : x30_2 = true
   ·subst c21
    have H1 : (some false) = some r := by rw [if_pos rfl] at H; exact H
    clear H
    have H := H1
    clear H1
    obtain rfl := Option.some.inj H
    go_wp2
    go_ret
    exact ⟨by first | rfl | (simp [errW_none, errW_some] <;> rfl) | (simp [*, errW_none, errW_some] <;> rfl), by repeat (first | (with_reducible first | exact HB.out | apply below_alloc | apply pw_below_drewN | apply below_drew1 | refine below_set ?_ GE194.out | refine below_set ?_ GE195.out) | exact HB.out)⟩
   ·replace c21 := Bool.eq_false_iff.mpr c21
    subst c21
    have H1 : ((cohousingref43_SameLines.f kj2 l0_4 l1_4).bind fun t196 => (if t196 = true then ((cohousingref06_Same.f kj2 l0_5 l1_5).bind fun t197 => (some t197)) else (some false))) = some r := by rw [if_neg (show ¬ (false = true) by decide)] at H; exact H
    clear H
    have H := H1
    clear H1
    replace H := Option.bind_eq_some_iff.mp H
    obtain ⟨t196, A220, H⟩ := H
    replace H : (if t196 = true then ((cohousingref06_Same.f kj2 l0_5 l1_5).bind fun t197 => (some t197)) else (some false)) = some r := H
    have A22 := Aside0.mk A220
    clear A220
    by_cases c23 : t196 = true
    ·subst c23
     have H1 : ((cohousingref06_Same.f kj2 l0_5 l1_5).bind fun t197 => (some t197)) = some r := by rw [if_pos rfl] at H; exact H
     clear H
     have H := H1
     clear H1
     replace H := Option.bind_eq_some_iff.mp H
     obtain ⟨t197, A240, H⟩ := H
     replace H : (some t197) = some r := H
     have A24 := Aside0.mk A240
     clear A240
     obtain rfl := Option.some.inj H
     have hnb25 := NB194_195.out
     have hnc25 := NB195_194.out
     have hcz26_0 : wc.cell? ⟨gb194, 0, none⟩ = some (.int .i64 a0_0) := (blk_cell BK194.out 0).trans rfl
     have hcz26_1 : wc.cell? ⟨gb194, 1, none⟩ = some (.int .i64 a0_1) := (blk_cell BK194.out 1).trans rfl
     have hcz26_2 : wc.cell? ⟨gb194, 2, none⟩ = some (.int .i64 a0_2) := (blk_cell BK194.out 2).trans rfl
     have hcz26_3 : wc.cell? ⟨gb194, 3, none⟩ = some (.int .i64 a0_3) := (blk_cell BK194.out 3).trans rfl
     have hcz26_4 : wc.cell? ⟨gb194, 4, none⟩ = some (.slice A0_4 l0_4.length c0_4) := (blk_cell BK194.out 4).trans rfl
     have hcz26_5 : wc.cell? ⟨gb194, 5, none⟩ = some (.slice A0_5 l0_5.length c0_5) := (blk_cell BK194.out 5).trans rfl
     have hfz26_0 := blk_frozen BK194.out 0
     have hfz26_1 := blk_frozen BK194.out 1
     have hfz26_2 := blk_frozen BK194.out 2
     have hfz26_3 := blk_frozen BK194.out 3
     have hfz26_4 := blk_frozen BK194.out 4
     have hfz26_5 := blk_frozen BK194.out 5
     have hcz27_0 : wc.cell? ⟨gb195, 0, none⟩ = some (.int .i64 a1_0) := (blk_cell BK195.out 0).trans rfl
     have hcz27_1 : wc.cell? ⟨gb195, 1, none⟩ = some (.int .i64 a1_1) := (blk_cell BK195.out 1).trans rfl
     have hcz27_2 : wc.cell? ⟨gb195, 2, none⟩ = some (.int .i64 a1_2) := (blk_cell BK195.out 2).trans rfl
     have hcz27_3 : wc.cell? ⟨gb195, 3, none⟩ = some (.int .i64 a1_3) := (blk_cell BK195.out 3).trans rfl
     have hcz27_4 : wc.cell? ⟨gb195, 4, none⟩ = some (.slice A1_4 l1_4.length c1_4) := (blk_cell BK195.out 4).trans rfl
     have hcz27_5 : wc.cell? ⟨gb195, 5, none⟩ = some (.slice A1_5 l1_5.length c1_5) := (blk_cell BK195.out 5).trans rfl
     have hfz27_0 := blk_frozen BK195.out 0
     have hfz27_1 := blk_frozen BK195.out 1
     have hfz27_2 := blk_frozen BK195.out 2
     have hfz27_3 := blk_frozen BK195.out 3
     have hfz27_4 := blk_frozen BK195.out 4
     have hfz27_5 := blk_frozen BK195.out 5
     go_wp2_with (first | ((with_reducible refine gate_callee (f := 13) rfl ?_); refine goesL_ (some 35) rfl rfl Tryd.func13 (by kernel_rfl) rfl #[.slice A0_4 l0_4.length c0_4, .slice A1_4 l1_4.length c1_4] rfl (by (try simp only [List.map_toArray, List.map_cons, List.map_nil]); first | done | rfl | (simp only [List.length_drop, List.length_take]; rfl)) ?_; (with_reducible refine (cohousingref43_SameLines.calls kj2 _ _ l0_4 _ _ l1_4 true _ ?side1 ?side2 ?side3 ?side4 A22.out).mono ?_); (case side1 => repeat (first | exact (Kd.C_below HR0_4.out HB.out) | (with_reducible refine Kd.C_alloc ?_ _) | (with_reducible refine Kd.C_drewN ?_ _) | (with_reducible refine Kd.C_drew ?_))); (case side2 => exact HC0_4.out); (case side3 => repeat (first | exact (Kd.C_below HR1_4.out HB.out) | (with_reducible refine Kd.C_alloc ?_ _) | (with_reducible refine Kd.C_drewN ?_ _) | (with_reducible refine Kd.C_drew ?_))); (case side4 => exact HC1_4.out); rintro e w' ⟨rfl, ⟨nd, rfl⟩⟩; refine ⟨_, rfl, ?_⟩) | (go_at_call 44; (with_reducible refine (cohousingref06_Same.calls kj2 _ _ l0_5 _ _ l1_5 t197 _ ?side1 ?side2 ?side3 ?side4 A24.out).mono ?_); (case side1 => repeat (first | exact (Kd.C_below HR0_5.out (by repeat (first | (with_reducible first | exact HB.out | apply below_alloc | apply pw_below_drewN | apply below_drew1 | refine below_set ?_ GE194.out | refine below_set ?_ GE195.out) | exact HB.out))) | (with_reducible refine Kd.C_alloc ?_ _) | (with_reducible refine Kd.C_drewN ?_ _) | (with_reducible refine Kd.C_drew ?_))); (case side2 => exact HC0_5.out); (case side3 => repeat (first | exact (Kd.C_below HR1_5.out (by repeat (first | (with_reducible first | exact HB.out | apply below_alloc | apply pw_below_drewN | apply below_drew1 | refine below_set ?_ GE194.out | refine below_set ?_ GE195.out) | exact HB.out))) | (with_reducible refine Kd.C_alloc ?_ _) | (with_reducible refine Kd.C_drewN ?_ _) | (with_reducible refine Kd.C_drew ?_))); (case side4 => exact HC1_5.out); rintro e w' ⟨rfl, ⟨nd, rfl⟩⟩))
     go_ret
     exact ⟨by first | rfl | (simp [errW_none, errW_some] <;> rfl) | (simp [*, errW_none, errW_some] <;> rfl), by repeat (first | (with_reducible first | exact HB.out | apply below_alloc | apply pw_below_drewN | apply below_drew1 | refine below_set ?_ GE194.out | refine below_set ?_ GE195.out) | exact HB.out)⟩
    ·replace c23 := Bool.eq_false_iff.mpr c23
     subst c23
     have H1 : (some false) = some r := by rw [if_neg (show ¬ (false = true) by decide)] at H; exact H
     clear H
     have H := H1
     clear H1
     obtain rfl := Option.some.inj H
     have hnb28 := NB194_195.out
     have hnc28 := NB195_194.out
     have hcz29_0 : wc.cell? ⟨gb194, 0, none⟩ = some (.int .i64 a0_0) := (blk_cell BK194.out 0).trans rfl
     have hcz29_1 : wc.cell? ⟨gb194, 1, none⟩ = some (.int .i64 a0_1) := (blk_cell BK194.out 1).trans rfl
     have hcz29_2 : wc.cell? ⟨gb194, 2, none⟩ = some (.int .i64 a0_2) := (blk_cell BK194.out 2).trans rfl
     have hcz29_3 : wc.cell? ⟨gb194, 3, none⟩ = some (.int .i64 a0_3) := (blk_cell BK194.out 3).trans rfl
     have hcz29_4 : wc.cell? ⟨gb194, 4, none⟩ = some (.slice A0_4 l0_4.length c0_4) := (blk_cell BK194.out 4).trans rfl
     have hcz29_5 : wc.cell? ⟨gb194, 5, none⟩ = some (.slice A0_5 l0_5.length c0_5) := (blk_cell BK194.out 5).trans rfl
     have hfz29_0 := blk_frozen BK194.out 0
     have hfz29_1 := blk_frozen BK194.out 1
     have hfz29_2 := blk_frozen BK194.out 2
     have hfz29_3 := blk_frozen BK194.out 3
     have hfz29_4 := blk_frozen BK194.out 4
     have hfz29_5 := blk_frozen BK194.out 5
     have hcz30_0 : wc.cell? ⟨gb195, 0, none⟩ = some (.int .i64 a1_0) := (blk_cell BK195.out 0).trans rfl
     have hcz30_1 : wc.cell? ⟨gb195, 1, none⟩ = some (.int .i64 a1_1) := (blk_cell BK195.out 1).trans rfl
     have hcz30_2 : wc.cell? ⟨gb195, 2, none⟩ = some (.int .i64 a1_2) := (blk_cell BK195.out 2).trans rfl
     have hcz30_3 : wc.cell? ⟨gb195, 3, none⟩ = some (.int .i64 a1_3) := (blk_cell BK195.out 3).trans rfl
     have hcz30_4 : wc.cell? ⟨gb195, 4, none⟩ = some (.slice A1_4 l1_4.length c1_4) := (blk_cell BK195.out 4).trans rfl
     have hcz30_5 : wc.cell? ⟨gb195, 5, none⟩ = some (.slice A1_5 l1_5.length c1_5) := (blk_cell BK195.out 5).trans rfl
     have hfz30_0 := blk_frozen BK195.out 0
     have hfz30_1 := blk_frozen BK195.out 1
     have hfz30_2 := blk_frozen BK195.out 2
     have hfz30_3 := blk_frozen BK195.out 3
     have hfz30_4 := blk_frozen BK195.out 4
     have hfz30_5 := blk_frozen BK195.out 5
     go_wp2_with (first | ((with_reducible refine gate_callee (f := 13) rfl ?_); refine goesL_ (some 35) rfl rfl Tryd.func13 (by kernel_rfl) rfl #[.slice A0_4 l0_4.length c0_4, .slice A1_4 l1_4.length c1_4] rfl (by (try simp only [List.map_toArray, List.map_cons, List.map_nil]); first | done | rfl | (simp only [List.length_drop, List.length_take]; rfl)) ?_; (with_reducible refine (cohousingref43_SameLines.calls kj2 _ _ l0_4 _ _ l1_4 false _ ?side1 ?side2 ?side3 ?side4 A22.out).mono ?_); (case side1 => repeat (first | exact (Kd.C_below HR0_4.out HB.out) | (with_reducible refine Kd.C_alloc ?_ _) | (with_reducible refine Kd.C_drewN ?_ _) | (with_reducible refine Kd.C_drew ?_))); (case side2 => exact HC0_4.out); (case side3 => repeat (first | exact (Kd.C_below HR1_4.out HB.out) | (with_reducible refine Kd.C_alloc ?_ _) | (with_reducible refine Kd.C_drewN ?_ _) | (with_reducible refine Kd.C_drew ?_))); (case side4 => exact HC1_4.out); rintro e w' ⟨rfl, ⟨nd, rfl⟩⟩; refine ⟨_, rfl, ?_⟩))
     go_ret
     exact ⟨by first | rfl | (simp [errW_none, errW_some] <;> rfl) | (simp [*, errW_none, errW_some] <;> rfl), by repeat (first | (with_reducible first | exact HB.out | apply below_alloc | apply pw_below_drewN | apply below_drew1 | refine below_set ?_ GE194.out | refine below_set ?_ GE195.out) | exact HB.out)⟩

/-! ### cohousinglaw43_total: function 8 -/
def cohousinglaw43_total.l0 : Nat → Int → List (List (S50)) → Int → Int → Option (Int)
 | 0, _, _, _, _ => none
 | k + 1, x3, x6, x7, x8 => if x8 < x7 then (if 0 ≤ x8 then (if x8 < (x6.length : Int) then (cohousinglaw43_total.l0 k (wrap64 (x3 + ((rd_L7 x6 x8).length : Int))) x6 x7 (wrap64 (x8 + 1))) else (none)) else (none)) else (some x3)
def cohousinglaw43_total.f (k : Nat) (l0 : List (List (S50))) : Option (Int) := cohousinglaw43_total.l0 k 0 l0 (l0.length : Int) 0
theorem cohousinglaw43_total.mono_l : ∀ k, (∀ y0 y1 y2 y3, LeO (cohousinglaw43_total.l0 k y0 y1 y2 y3) (cohousinglaw43_total.l0 (k + 1) y0 y1 y2 y3))
 | 0 => fun _ _ _ _ r h => by simp [cohousinglaw43_total.l0] at h
 | k + 1 => by
  have ih0 := cohousinglaw43_total.mono_l k
  ·intro y0 y1 y2 y3
   unfold cohousinglaw43_total.l0
   repeat' first
   | (with_reducible exact ih0 _ _ _ _)
   | (with_reducible exact LeO.refl _)
   | (with_reducible exact LeO.none _)
   | (with_reducible refine LeO.ite ?_ ?_)
   | (with_reducible refine LeO.bind ?_ (fun _ => ?_))
   | exact ih0 _ _ _ _
   | exact LeO.none _
   | refine LeO.ite ?_ ?_
   | refine LeO.bind ?_ (fun _ => ?_)
theorem cohousinglaw43_total.mono : ∀ a0 k, LeO (cohousinglaw43_total.f k a0) (cohousinglaw43_total.f (k + 1) a0) := by
 intro a0 k
 have ih0 := cohousinglaw43_total.mono_l k
 unfold cohousinglaw43_total.f
 repeat' first
   | (with_reducible exact ih0 _ _ _ _)
   | (with_reducible exact LeO.refl _)
   | (with_reducible exact LeO.none _)
   | (with_reducible refine LeO.ite ?_ ?_)
   | (with_reducible refine LeO.bind ?_ (fun _ => ?_))
   | exact ih0 _ _ _ _
   | exact LeO.none _
   | refine LeO.ite ?_ ?_
   | refine LeO.bind ?_ (fun _ => ?_)
set_option maxHeartbeats 8000000 in
set_option maxRecDepth 100000 in
theorem cohousinglaw43_total.calls (k : Nat) (A0 : Option Addr) (c0 : Nat) (l0 : List (List (S50))) (r : Int) (w : World) (hr0 : Kd.C (Kd.slice 50 k50) w A0 l0.length l0) (hc0 : l0.length ≤ c0) (h : cohousinglaw43_total.f k l0 = some r) :
  Calls Tryd.prog 8 #[.slice A0 l0.length c0] w fun e w' => e = .returned (.int .i64 r) ∧ Drawn0 w w' := by
 have HR0 := Aside0.mk hr0
 have HC0 := Aside0.mk hc0
 clear hr0 hc0
 have H : (cohousinglaw43_total.l0 k 0 l0 (l0.length : Int) 0) = some r := h
 clear h
 have H' := Aside0.mk H
 clear H
 go_enter Tryd.func8, Tryd.ntmps8
 go_wp2
 go_loopg [3, 8] k (fun kq v3 v8 w' => ∃ (x3_1 : Int) (x8_1 : Int), v3 = .int .i64 x3_1 ∧ v8 = .int .i64 x8_1 ∧ Aside0 (cohousinglaw43_total.l0 kq x3_1 l0 (l0.length : Int) x8_1 = some r) ∧ Aside0 (kq ≤ k) ∧ Drawn0 w w')
 case atStart => exact ⟨(0), (0), (by first | rfl | (simp; done) | (simp [*]; done)), (by first | rfl | (simp; done) | (simp [*]; done)), H', ⟨Nat.le_refl _⟩, by repeat (first | exact Drawn0.refl _ | apply Drawn0.step)⟩
 case round =>
  clear H'
  obtain ⟨x3_1, x8_1, rfl, rfl, HA, HK1, ⟨m1, rfl⟩⟩ := hrel
  cases gk with
  | zero => exact absurd HA.out (by simp [cohousinglaw43_total.l0])
  | succ k1 =>
   have H := HA.out
   clear HA
   simp only [cohousinglaw43_total.l0] at H
   by_cases c2 : x8_1 < (l0.length : Int)
   ·rw [if_pos c2] at H
    have c2b0 : decide (x8_1 < (l0.length : Int)) = true := decide_eq_true c2
    clear c2
    by_cases c3 : 0 ≤ x8_1
    ·rw [if_pos c3] at H
     have c3b0 : decide (0 ≤ x8_1) = true := decide_eq_true c3
     clear c3
     by_cases c4 : x8_1 < (l0.length : Int)
     ·rw [if_pos c4] at H
      have c4b0 : decide (x8_1 < (l0.length : Int)) = true := decide_eq_true c4
      clear c4
      have H' := Aside0.mk H
      clear H
      have p198 : 0 ≤ (x8_1 : Int) := of_decide_eq_true (by first | (with_reducible assumption) | assumption)
      have q198 : x8_1 < (l0.length : Int) := of_decide_eq_true (by first | (with_reducible assumption) | assumption)
      obtain ⟨ad198, A198_0, c198_0, e198, hx198_0, hl198_0, hi198_0⟩ := at_L7 HR0.out x8_1 p198 q198
      cases e198
      have HR198_0 := Aside0.mk hi198_0
      have HC198_0 := Aside0.mk hl198_0
      clear hi198_0 hl198_0
      replace p198 := eq_true p198
      replace q198 := eq_true q198
      go_wp2
      go_roundg k1
      case measure => have := HK1.out; omega
      case rel => exact ⟨(wrap64 (x3_1 + ((rd_L7 l0 x8_1).length : Int))), (wrap64 (x8_1 + 1)), (by first | rfl | (simp; done) | (simp [*]; done)), (by first | rfl | (simp; done) | (simp [*]; done)), H', ⟨by have := HK1.out; omega⟩, by repeat (first | exact Drawn0.refl _ | apply Drawn0.step)⟩
     ·rw [if_neg c4] at H
      exact absurd H (by simp)
    ·rw [if_neg c3] at H
     exact absurd H (by simp)
   ·rw [if_neg c2] at H
    have c2b0 : decide (x8_1 < (l0.length : Int)) = false := decide_eq_false c2
    clear c2
    obtain rfl := Option.some.inj H
    go_wp2
    go_ret
    exact ⟨by first | rfl | (simp; done) | (simp [*]; done), by repeat (first | exact Drawn0.refl _ | apply Drawn0.step)⟩

end Go.Proofs.YtkdckjafhaadiaaDoor.P
