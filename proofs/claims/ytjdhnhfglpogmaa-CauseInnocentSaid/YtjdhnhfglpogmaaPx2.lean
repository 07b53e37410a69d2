-- Written by a program of this session out of the translation (wip/pp: the kit's print, turned). Not trusted: Lean checks it.
import Derived.Test.YtjdhnhfglpogmaaPx0
import Derived.Test.YtjdhnhfglpogmaaPx1
namespace Go.Proofs.Ytjdhnhfglpogmaa.P
open Go.RowKit Go.Proofs.YtjdhnhfglpogmaaW.PrintWords Go.Proofs.YtjdhnhfglpogmaaW.PrintLast Go.Proofs.YtjdhnhfglpogmaaW.PrintMore
attribute [local go_sem] max2_int min2_int max_two min_two max_three min_three max_four min_four   -- for this text's walks alone
set_option linter.unusedVariables false
set_option linter.unusedSimpArgs false

/-! ### cohousingref36_Valid: function 16 -/
mutual
def cohousingref36_Valid.l0 : Nat → List (S44) → Int → Option (Bool)
 | 0, _, _ => none
 | k + 1, x0, x3 => if x3 < (x0.length : Int) then (if 0 ≤ x3 then (if (((rd_T44 x0 x3).f1).length : Int) > 4 then (cohousingref36_Valid.j1 k x0 x3 true ((rd_T44 x0 x3).f0) ((rd_T44 x0 x3).f1) ((rd_T44 x0 x3).f2)) else ((cohousingref36_rising.f k ((rd_T44 x0 x3).f1) x3).bind fun t125 => (cohousingref36_Valid.j1 k x0 x3 (!t125) ((rd_T44 x0 x3).f0) ((rd_T44 x0 x3).f1) ((rd_T44 x0 x3).f2)))) else (none)) else (some true)
def cohousingref36_Valid.j1 : Nat → List (S44) → Int → Bool → Int → List Int → List Bool → Option (Bool)
 | 0, _, _, _, _, _, _ => none
 | k + 1, x0, x3, x28, x125000, x125001, x125002 => if x28 = true then (some false) else (if (x125001.length : Int) = 0 then (if (x125002.length : Int) = 0 then (if x125000 < 0 then (cohousingref36_Valid.j2 k x0 x3 true x125000 x125001 x125002) else (cohousingref36_Valid.j2 k x0 x3 (decide (x125000 > 64)) x125000 x125001 x125002)) else (cohousingref36_Valid.j2 k x0 x3 true x125000 x125001 x125002)) else (cohousingref36_Valid.j2 k x0 x3 false x125000 x125001 x125002))
def cohousingref36_Valid.j2 : Nat → List (S44) → Int → Bool → Int → List Int → List Bool → Option (Bool)
 | 0, _, _, _, _, _, _ => none
 | k + 1, x0, x3, x48, x125000, x125001, x125002 => if x48 = true then (some false) else (if (x125001.length : Int) > 0 then (if (x125002.length : Int) = (shl .i64 1 (x125001.length : Int)) then (if x125000 = 0 then (cohousingref36_Valid.l0 k x0 (wrap64 (x3 + 1))) else (some false)) else (some false)) else (cohousingref36_Valid.l0 k x0 (wrap64 (x3 + 1))))
end
def cohousingref36_Valid.f (k : Nat) (l0 : List (S44)) : Option (Bool) := if (l0.length : Int) > 12 then (some false) else (cohousingref36_Valid.l0 k l0 0)
theorem cohousingref36_Valid.mono_l : ∀ k, (∀ y0 y1, LeO (cohousingref36_Valid.l0 k y0 y1) (cohousingref36_Valid.l0 (k + 1) y0 y1)) ∧ (∀ y0 y1 y2 y3 y4 y5, LeO (cohousingref36_Valid.j1 k y0 y1 y2 y3 y4 y5) (cohousingref36_Valid.j1 (k + 1) y0 y1 y2 y3 y4 y5)) ∧ (∀ y0 y1 y2 y3 y4 y5, LeO (cohousingref36_Valid.j2 k y0 y1 y2 y3 y4 y5) (cohousingref36_Valid.j2 (k + 1) y0 y1 y2 y3 y4 y5))
 | 0 => ⟨fun _ _ r h => by simp [cohousingref36_Valid.l0] at h, fun _ _ _ _ _ _ r h => by simp [cohousingref36_Valid.j1] at h, fun _ _ _ _ _ _ r h => by simp [cohousingref36_Valid.j2] at h⟩
 | k + 1 => by
  obtain ⟨ih0, ih1, ih2⟩ := cohousingref36_Valid.mono_l k
  refine ⟨?_, ?_, ?_⟩
  ·intro y0 y1
   unfold cohousingref36_Valid.l0
   repeat' first
   | (with_reducible exact ih0 _ _)
   | (with_reducible exact ih1 _ _ _ _ _ _)
   | (with_reducible exact ih2 _ _ _ _ _ _)
   | (with_reducible exact cohousingref36_rising.mono _ _ _)
   | (with_reducible exact LeO.refl _)
   | (with_reducible exact LeO.none _)
   | (with_reducible refine LeO.ite ?_ ?_)
   | (with_reducible refine LeO.bind ?_ (fun _ => ?_))
   | exact ih0 _ _
   | exact ih1 _ _ _ _ _ _
   | exact ih2 _ _ _ _ _ _
   | exact cohousingref36_rising.mono _ _ _
   | exact LeO.none _
   | refine LeO.ite ?_ ?_
   | refine LeO.bind ?_ (fun _ => ?_)
  ·intro y0 y1 y2 y3 y4 y5
   unfold cohousingref36_Valid.j1
   repeat' first
   | (with_reducible exact ih0 _ _)
   | (with_reducible exact ih1 _ _ _ _ _ _)
   | (with_reducible exact ih2 _ _ _ _ _ _)
   | (with_reducible exact cohousingref36_rising.mono _ _ _)
   | (with_reducible exact LeO.refl _)
   | (with_reducible exact LeO.none _)
   | (with_reducible refine LeO.ite ?_ ?_)
   | (with_reducible refine LeO.bind ?_ (fun _ => ?_))
   | exact ih0 _ _
   | exact ih1 _ _ _ _ _ _
   | exact ih2 _ _ _ _ _ _
   | exact cohousingref36_rising.mono _ _ _
   | exact LeO.none _
   | refine LeO.ite ?_ ?_
   | refine LeO.bind ?_ (fun _ => ?_)
  ·intro y0 y1 y2 y3 y4 y5
   unfold cohousingref36_Valid.j2
   repeat' first
   | (with_reducible exact ih0 _ _)
   | (with_reducible exact ih1 _ _ _ _ _ _)
   | (with_reducible exact ih2 _ _ _ _ _ _)
   | (with_reducible exact cohousingref36_rising.mono _ _ _)
   | (with_reducible exact LeO.refl _)
   | (with_reducible exact LeO.none _)
   | (with_reducible refine LeO.ite ?_ ?_)
   | (with_reducible refine LeO.bind ?_ (fun _ => ?_))
   | exact ih0 _ _
   | exact ih1 _ _ _ _ _ _
   | exact ih2 _ _ _ _ _ _
   | exact cohousingref36_rising.mono _ _ _
   | exact LeO.none _
   | refine LeO.ite ?_ ?_
   | refine LeO.bind ?_ (fun _ => ?_)
theorem cohousingref36_Valid.mono : ∀ a0 k, LeO (cohousingref36_Valid.f k a0) (cohousingref36_Valid.f (k + 1) a0) := by
 intro a0 k
 obtain ⟨ih0, ih1, ih2⟩ := cohousingref36_Valid.mono_l k
 unfold cohousingref36_Valid.f
 repeat' first
   | (with_reducible exact ih0 _ _)
   | (with_reducible exact ih1 _ _ _ _ _ _)
   | (with_reducible exact ih2 _ _ _ _ _ _)
   | (with_reducible exact cohousingref36_rising.mono _ _ _)
   | (with_reducible exact LeO.refl _)
   | (with_reducible exact LeO.none _)
   | (with_reducible refine LeO.ite ?_ ?_)
   | (with_reducible refine LeO.bind ?_ (fun _ => ?_))
   | exact ih0 _ _
   | exact ih1 _ _ _ _ _ _
   | exact ih2 _ _ _ _ _ _
   | exact cohousingref36_rising.mono _ _ _
   | exact LeO.none _
   | refine LeO.ite ?_ ?_
   | refine LeO.bind ?_ (fun _ => ?_)
set_option maxHeartbeats 8000000 in
set_option maxRecDepth 100000 in
theorem cohousingref36_Valid.calls (k : Nat) (A0 : Option Addr) (c0 : Nat) (l0 : List (S44)) (r : Bool) (w : World) (hr0 : Kd.C k44 w A0 l0.length l0) (hc0 : l0.length ≤ c0) (h : cohousingref36_Valid.f k l0 = some r) :
  Calls Try.prog 16 #[.slice A0 l0.length c0] w fun e w' => e = .returned (.bool r) ∧ Below w.heap.size w w' := by
 have hu44 := Try.underlying44
 have HR0 := Aside0.mk hr0
 have HC0 := Aside0.mk hc0
 clear hr0 hc0
 have HB := Aside0.mk (Below.refl w.heap.size w)
 have H : (if (l0.length : Int) > 12 then (some false) else (cohousingref36_Valid.l0 k l0 0)) = some r := h
 clear h
 by_cases c2 : (l0.length : Int) > 12
 ·rw [if_pos c2] at H
  have c2b0 : decide (12 < (l0.length : Int)) = true := decide_eq_true c2
  have c2b1 : decide (12 < l0.length) = true := decide_eq_true (by omega)
  clear c2
  obtain rfl := Option.some.inj H
  go_enter Try.func16, Try.ntmps16
  go_wp2
  repeat (go_quiet (fail); try go_wp2)
  go_ret
  exact ⟨by first | rfl | (simp [errW_none, errW_some] <;> rfl) | (simp [*, errW_none, errW_some] <;> rfl), by repeat (first | (with_reducible first | exact HB.out | apply below_alloc | apply pw_below_drewN | apply below_drew1) | exact HB.out)⟩
 ·rw [if_neg c2] at H
  have c2b0 : decide (12 < (l0.length : Int)) = false := decide_eq_false c2
  have c2b1 : decide (12 < l0.length) = false := decide_eq_false (by omega)
  clear c2
  have H' := Aside0.mk H
  clear H
  go_enter Try.func16, Try.ntmps16
  go_wp2
  repeat (go_quiet (fail); try go_wp2)
  go_loopg [3] k (fun kq v3 w' => ∃ (x3_1 : Int), v3 = .int .i64 x3_1 ∧ Aside0 (cohousingref36_Valid.l0 kq l0 x3_1 = some r) ∧ Aside0 (kq ≤ k) ∧ Aside0 (Below w.heap.size w w'))
  case atStart => exact ⟨(0), (by first | rfl | (simp; done) | (simp [*]; done)), H', ⟨Nat.le_refl _⟩, ⟨by repeat (first | (with_reducible first | exact HB.out | apply below_alloc | apply pw_below_drewN | apply below_drew1) | exact HB.out)⟩⟩
  case round =>
   clear H'
   try clear c1
   try clear c2
   try clear c2b0
   try clear c2b1
   try clear p2
   obtain ⟨x3_1, rfl, HA, HK1, HB⟩ := hrel
   cases gk with
   | zero => exact absurd HA.out (by simp [cohousingref36_Valid.l0])
   | succ k1 =>
    have H := HA.out
    clear HA
    simp only [cohousingref36_Valid.l0] at H
    by_cases c3 : x3_1 < (l0.length : Int)
    ·rw [if_pos c3] at H
     have c3b0 : decide (x3_1 < (l0.length : Int)) = true := decide_eq_true c3
     clear c3
     by_cases c4 : 0 ≤ x3_1
     ·rw [if_pos c4] at H
      have c4b0 : decide (0 ≤ x3_1) = true := decide_eq_true c4
      clear c4
      have HC5 := Aside0.mk H
      clear H
      have p123 : 0 ≤ (x3_1 : Int) := of_decide_eq_true (by first | (with_reducible assumption) | assumption)
      have q123 : x3_1 < (l0.length : Int) := of_decide_eq_true (by first | (with_reducible assumption) | assumption)
      obtain ⟨ad123, A123_1, c123_1, A123_2, c123_2, e123, hx123_0, hx123_1, hx123_2, hl123_1, hi123_1, hl123_2, hi123_2⟩ := at_T44 HR0.out x3_1 p123 q123
      cases e123
      replace hx123_0 := (HB.out.cell (World.block_lt_of_cell? w _ hx123_0)).trans hx123_0
      replace hx123_1 := (HB.out.cell (World.block_lt_of_cell? w _ hx123_1)).trans hx123_1
      replace hx123_2 := (HB.out.cell (World.block_lt_of_cell? w _ hx123_2)).trans hx123_2
      have HR123_1 := Aside0.mk hi123_1
      have HC123_1 := Aside0.mk hl123_1
      clear hi123_1 hl123_1
      have HR123_2 := Aside0.mk hi123_2
      have HC123_2 := Aside0.mk hl123_2
      clear hi123_2 hl123_2
      replace p123 := eq_true p123
      replace q123 := eq_true q123
      go_upto_region 7 with (first | ((with_reducible refine gate_dst (N := 4) rfl ?_); (try (refine gate_guard (by rfl) ?_; dsimp only)); refine box_event ?hg (N := 4) ?hd (cs := #[.int .i64 0, .slice none 0 0, .slice none 0 0]) (t := 44) ?hr ?_; (case hd => rfl); (case hg => rfl); (case hr => first | (go_simp; done) | (go_simp; rfl)); intro gb124 hg w6 hbox hb; have n0_ := Aside0.mk (below_step (by repeat (first | (with_reducible first | exact HB.out | apply below_alloc | apply pw_below_drewN | apply below_drew1) | exact HB.out)) hb); have n1_ := Aside0.mk (hbox); have n2_ := Aside0.mk ((by rw [hg]; exact (below_size (by repeat (first | (with_reducible first | exact HB.out | apply below_alloc | apply pw_below_drewN | apply below_drew1) | exact HB.out))) : w.heap.size ≤ gb124)); have n3_ := Aside0.mk ((by rw [hg]; exact (below_size (by repeat (first | (with_reducible first | exact HB.out | apply below_alloc | apply pw_below_drewN | apply below_drew1) | exact HB.out))) : w.heap.size ≤ gb124)); clear HB; have HB := n0_; have BK124 := n1_; have GW124 := n2_; have GE124 := n3_; clear n0_ n1_ n2_ n3_; clear hb hbox hg; have hcz7_0 : w6.cell? ⟨gb124, 0, none⟩ = some (.int .i64 0) := (blk_cell BK124.out 0).trans rfl; have hcz7_1 : w6.cell? ⟨gb124, 1, none⟩ = some (.slice none 0 0) := (blk_cell BK124.out 1).trans rfl; have hcz7_2 : w6.cell? ⟨gb124, 2, none⟩ = some (.slice none 0 0) := (blk_cell BK124.out 2).trans rfl; have hfz7_0 := blk_frozen BK124.out 0; have hfz7_1 := blk_frozen BK124.out 1; have hfz7_2 := blk_frozen BK124.out 2))
      repeat (go_quiet (first | ((with_reducible refine gate_dst (N := 4) rfl ?_); (try (refine gate_guard (by rfl) ?_; dsimp only)); refine box_event ?hg (N := 4) ?hd (cs := #[.int .i64 0, .slice none 0 0, .slice none 0 0]) (t := 44) ?hr ?_; (case hd => rfl); (case hg => rfl); (case hr => first | (go_simp; done) | (go_simp; rfl)); intro gb124 hg w6 hbox hb; have n0_ := Aside0.mk (below_step (by repeat (first | (with_reducible first | exact HB.out | apply below_alloc | apply pw_below_drewN | apply below_drew1) | exact HB.out)) hb); have n1_ := Aside0.mk (hbox); have n2_ := Aside0.mk ((by rw [hg]; exact (below_size (by repeat (first | (with_reducible first | exact HB.out | apply below_alloc | apply pw_below_drewN | apply below_drew1) | exact HB.out))) : w.heap.size ≤ gb124)); have n3_ := Aside0.mk ((by rw [hg]; exact (below_size (by repeat (first | (with_reducible first | exact HB.out | apply below_alloc | apply pw_below_drewN | apply below_drew1) | exact HB.out))) : w.heap.size ≤ gb124)); clear HB; have HB := n0_; have BK124 := n1_; have GW124 := n2_; have GE124 := n3_; clear n0_ n1_ n2_ n3_; clear hb hbox hg; have hcz7_0 : w6.cell? ⟨gb124, 0, none⟩ = some (.int .i64 0) := (blk_cell BK124.out 0).trans rfl; have hcz7_1 : w6.cell? ⟨gb124, 1, none⟩ = some (.slice none 0 0) := (blk_cell BK124.out 1).trans rfl; have hcz7_2 : w6.cell? ⟨gb124, 2, none⟩ = some (.slice none 0 0) := (blk_cell BK124.out 2).trans rfl; have hfz7_0 := blk_frozen BK124.out 0; have hfz7_1 := blk_frozen BK124.out 1; have hfz7_2 := blk_frozen BK124.out 2)); go_upto_region 7 with (first | ((with_reducible refine gate_dst (N := 4) rfl ?_); (try (refine gate_guard (by rfl) ?_; dsimp only)); refine box_event ?hg (N := 4) ?hd (cs := #[.int .i64 0, .slice none 0 0, .slice none 0 0]) (t := 44) ?hr ?_; (case hd => rfl); (case hg => rfl); (case hr => first | (go_simp; done) | (go_simp; rfl)); intro gb124 hg w6 hbox hb; have n0_ := Aside0.mk (below_step (by repeat (first | (with_reducible first | exact HB.out | apply below_alloc | apply pw_below_drewN | apply below_drew1) | exact HB.out)) hb); have n1_ := Aside0.mk (hbox); have n2_ := Aside0.mk ((by rw [hg]; exact (below_size (by repeat (first | (with_reducible first | exact HB.out | apply below_alloc | apply pw_below_drewN | apply below_drew1) | exact HB.out))) : w.heap.size ≤ gb124)); have n3_ := Aside0.mk ((by rw [hg]; exact (below_size (by repeat (first | (with_reducible first | exact HB.out | apply below_alloc | apply pw_below_drewN | apply below_drew1) | exact HB.out))) : w.heap.size ≤ gb124)); clear HB; have HB := n0_; have BK124 := n1_; have GW124 := n2_; have GE124 := n3_; clear n0_ n1_ n2_ n3_; clear hb hbox hg; have hcz7_0 : w6.cell? ⟨gb124, 0, none⟩ = some (.int .i64 0) := (blk_cell BK124.out 0).trans rfl; have hcz7_1 : w6.cell? ⟨gb124, 1, none⟩ = some (.slice none 0 0) := (blk_cell BK124.out 1).trans rfl; have hcz7_2 : w6.cell? ⟨gb124, 2, none⟩ = some (.slice none 0 0) := (blk_cell BK124.out 2).trans rfl; have hfz7_0 := blk_frozen BK124.out 0; have hfz7_1 := blk_frozen BK124.out 1; have hfz7_2 := blk_frozen BK124.out 2)))
      (try simp only [Act.put, List.setIfInBounds_toArray, List.set_cons_zero, List.set_cons_succ])
      go_cut [28] (fun v28 wc => ∃ (kq : Nat) (x28_4 : Bool), v28 = .bool x28_4 ∧ Aside0 (cohousingref36_Valid.j1 kq l0 x3_1 x28_4 ((rd_T44 l0 x3_1).f0) ((rd_T44 l0 x3_1).f1) ((rd_T44 l0 x3_1).f2) = some r) ∧ Aside0 (kq ≤ k1) ∧ Aside0 (wc.heap[gb124]? = some (.cells #[.int .i64 ((rd_T44 l0 x3_1).f0), (.slice A123_1 ((rd_T44 l0 x3_1).f1).length c123_1), (.slice A123_2 ((rd_T44 l0 x3_1).f2).length c123_2)] 44 (0, 0))) ∧ Aside0 (Below w.heap.size w wc))
      case first =>
       have H := HC5.out
       clear HC5
       by_cases c8 : (((rd_T44 l0 x3_1).f1).length : Int) > 4
       ·rw [if_pos c8] at H
        have c8b0 : decide (4 < (((rd_T44 l0 x3_1).f1).length : Int)) = true := decide_eq_true c8
        have c8b1 : decide (4 < ((rd_T44 l0 x3_1).f1).length) = true := decide_eq_true (by omega)
        clear c8
        (first | rw [c8b0] | (simp only [i64_w, i32_w]; rw [c8b0]) | skip)
        have H' := Aside0.mk H
        clear H
        have hcz9_0 : w6.cell? ⟨gb124, 0, none⟩ = some (.int .i64 0) := (blk_cell BK124.out 0).trans rfl
        have hcz9_1 : w6.cell? ⟨gb124, 1, none⟩ = some (.slice none 0 0) := (blk_cell BK124.out 1).trans rfl
        have hcz9_2 : w6.cell? ⟨gb124, 2, none⟩ = some (.slice none 0 0) := (blk_cell BK124.out 2).trans rfl
        have hfz9_0 := blk_frozen BK124.out 0
        have hfz9_1 := blk_frozen BK124.out 1
        have hfz9_2 := blk_frozen BK124.out 2
        go_wp2
        repeat (go_quiet (fail); try go_wp2)
        go_meet
        case rel => exact ⟨_, (true), (by first | rfl | (simp; done) | (simp [*]; done)), H', ⟨by have := HK1.out; first | omega | exact Nat.le_refl _⟩, ⟨by (with_reducible repeat (first | refine blk_drewN ?_ _ | refine blk_drew ?_ | refine blk_alloc ?_ _)); refine blk_put (cs := #[.int .i64 ((rd_T44 l0 x3_1).f0), .slice A123_1 ((rd_T44 l0 x3_1).f1).length c123_1, .slice none 0 0]) ?_ 2 _ rfl; (with_reducible repeat (first | refine blk_drewN ?_ _ | refine blk_drew ?_ | refine blk_alloc ?_ _)); refine blk_put (cs := #[.int .i64 ((rd_T44 l0 x3_1).f0), .slice none 0 0, .slice none 0 0]) ?_ 1 _ rfl; (with_reducible repeat (first | refine blk_drewN ?_ _ | refine blk_drew ?_ | refine blk_alloc ?_ _)); refine blk_put (cs := #[.int .i64 0, .slice none 0 0, .slice none 0 0]) ?_ 0 _ rfl; (with_reducible repeat (first | refine blk_drewN ?_ _ | refine blk_drew ?_ | refine blk_alloc ?_ _)); exact BK124.out⟩, ⟨by repeat (first | (with_reducible first | exact HB.out | apply below_alloc | apply pw_below_drewN | apply below_drew1 | refine below_set ?_ GE124.out) | exact HB.out)⟩⟩
       ·rw [if_neg c8] at H
        have c8b0 : decide (4 < (((rd_T44 l0 x3_1).f1).length : Int)) = false := decide_eq_false c8
        have c8b1 : decide (4 < ((rd_T44 l0 x3_1).f1).length) = false := decide_eq_false (by omega)
        clear c8
        (first | rw [c8b0] | (simp only [i64_w, i32_w]; rw [c8b0]) | skip)
        replace H := Option.bind_eq_some_iff.mp H
        obtain ⟨t125, A100, H⟩ := H
        replace H : (cohousingref36_Valid.j1 k1 l0 x3_1 (!t125) ((rd_T44 l0 x3_1).f0) ((rd_T44 l0 x3_1).f1) ((rd_T44 l0 x3_1).f2)) = some r := H
        have A10 := Aside0.mk A100
        clear A100
        have H' := Aside0.mk H
        clear H
        have hcz11_0 : w6.cell? ⟨gb124, 0, none⟩ = some (.int .i64 0) := (blk_cell BK124.out 0).trans rfl
        have hcz11_1 : w6.cell? ⟨gb124, 1, none⟩ = some (.slice none 0 0) := (blk_cell BK124.out 1).trans rfl
        have hcz11_2 : w6.cell? ⟨gb124, 2, none⟩ = some (.slice none 0 0) := (blk_cell BK124.out 2).trans rfl
        have hfz11_0 := blk_frozen BK124.out 0
        have hfz11_1 := blk_frozen BK124.out 1
        have hfz11_2 := blk_frozen BK124.out 2
        go_wp2_with (first | (go_at_call 36; (with_reducible refine (cohousingref36_rising.calls k1 _ _ ((rd_T44 l0 x3_1).f1) x3_1 t125 _ ?side1 ?side2 A10.out).mono ?_); (case side1 => exact Kd.C_below HR123_1.out (by repeat (first | (with_reducible first | exact HB.out | apply below_alloc | apply pw_below_drewN | apply below_drew1 | refine below_set ?_ GE124.out) | exact HB.out))); (case side2 => exact HC123_1.out); rintro e w' ⟨rfl, ⟨nd, rfl⟩⟩; (try first | exact ⟨rfl, _, World.drewN_drewN _ _ _⟩ | exact ⟨rfl, _, Eq.trans (World.drewN_drewN _ _ _) (congrArg (World.drewN _) (Nat.add_assoc _ _ _))⟩)))
        repeat (go_quiet (first | (go_at_call 36; (with_reducible refine (cohousingref36_rising.calls k1 _ _ ((rd_T44 l0 x3_1).f1) x3_1 t125 _ ?side1 ?side2 A10.out).mono ?_); (case side1 => exact Kd.C_below HR123_1.out (by repeat (first | (with_reducible first | exact HB.out | apply below_alloc | apply pw_below_drewN | apply below_drew1 | refine below_set ?_ GE124.out) | exact HB.out))); (case side2 => exact HC123_1.out); rintro e w' ⟨rfl, ⟨nd, rfl⟩⟩; (try first | exact ⟨rfl, _, World.drewN_drewN _ _ _⟩ | exact ⟨rfl, _, Eq.trans (World.drewN_drewN _ _ _) (congrArg (World.drewN _) (Nat.add_assoc _ _ _))⟩))); try go_wp2_with (first | (go_at_call 36; (with_reducible refine (cohousingref36_rising.calls k1 _ _ ((rd_T44 l0 x3_1).f1) x3_1 t125 _ ?side1 ?side2 A10.out).mono ?_); (case side1 => exact Kd.C_below HR123_1.out (by repeat (first | (with_reducible first | exact HB.out | apply below_alloc | apply pw_below_drewN | apply below_drew1 | refine below_set ?_ GE124.out) | exact HB.out))); (case side2 => exact HC123_1.out); rintro e w' ⟨rfl, ⟨nd, rfl⟩⟩; (try first | exact ⟨rfl, _, World.drewN_drewN _ _ _⟩ | exact ⟨rfl, _, Eq.trans (World.drewN_drewN _ _ _) (congrArg (World.drewN _) (Nat.add_assoc _ _ _))⟩))))
        go_meet
        case rel => exact ⟨_, (!t125), (by first | rfl | (simp; done) | (simp [*]; done)), H', ⟨by have := HK1.out; first | omega | exact Nat.le_refl _⟩, ⟨by (with_reducible repeat (first | refine blk_drewN ?_ _ | refine blk_drew ?_ | refine blk_alloc ?_ _)); refine blk_put (cs := #[.int .i64 ((rd_T44 l0 x3_1).f0), .slice A123_1 ((rd_T44 l0 x3_1).f1).length c123_1, .slice none 0 0]) ?_ 2 _ rfl; (with_reducible repeat (first | refine blk_drewN ?_ _ | refine blk_drew ?_ | refine blk_alloc ?_ _)); refine blk_put (cs := #[.int .i64 ((rd_T44 l0 x3_1).f0), .slice none 0 0, .slice none 0 0]) ?_ 1 _ rfl; (with_reducible repeat (first | refine blk_drewN ?_ _ | refine blk_drew ?_ | refine blk_alloc ?_ _)); refine blk_put (cs := #[.int .i64 0, .slice none 0 0, .slice none 0 0]) ?_ 0 _ rfl; (with_reducible repeat (first | refine blk_drewN ?_ _ | refine blk_drew ?_ | refine blk_alloc ?_ _)); exact BK124.out⟩, ⟨by repeat (first | (with_reducible first | exact HB.out | apply below_alloc | apply pw_below_drewN | apply below_drew1 | refine below_set ?_ GE124.out) | exact HB.out)⟩⟩
      case rest =>
       clear HC5
       try clear c1
       try clear p1
       try clear q1
       try clear hx1
       try clear c2
       try clear c2b0
       try clear c2b1
       try clear p2
       try clear c3
       try clear c3b0
       try clear c4
       try clear c4b0
       try clear c8
       try clear c8b0
       try clear c8b1
       try clear hcz11_0
       try clear hcz11_1
       try clear hcz11_2
       try clear hcz7_0
       try clear hcz7_1
       try clear hcz7_2
       try clear hcz9_0
       try clear hcz9_1
       try clear hcz9_2
       try clear hfz11_0
       try clear hfz11_1
       try clear hfz11_2
       try clear hfz7_0
       try clear hfz7_1
       try clear hfz7_2
       try clear hfz9_0
       try clear hfz9_1
       try clear hfz9_2
       try clear hx123_0
       try clear hx123_1
       try clear hx123_2
       try clear p123
       try clear p2
       try clear q123
       obtain ⟨kq, x28_4, rfl, HA, HJ4, BK124, HB⟩ := hcut
       cases kq with
       | zero => exact absurd HA.out (by simp [cohousingref36_Valid.j1])
       | succ kj4 =>
        have H := HA.out
        clear HA
        simp only [cohousingref36_Valid.j1] at H
        by_cases c12 : x28_4 = true
        ·subst c12
         have H1 : (some false) = some r := by rw [if_pos rfl] at H; exact H
         clear H
         have H := H1
         clear H1
         obtain rfl := Option.some.inj H
         go_wp2
         repeat (go_quiet (fail); try go_wp2)
         go_ret
         exact ⟨by first | rfl | (simp [errW_none, errW_some] <;> rfl) | (simp [*, errW_none, errW_some] <;> rfl), by repeat (first | (with_reducible first | exact HB.out | apply below_alloc | apply pw_below_drewN | apply below_drew1 | refine below_set ?_ GE124.out) | exact HB.out)⟩
        ·replace c12 := Bool.eq_false_iff.mpr c12
         subst c12
         have H1 : (if (((rd_T44 l0 x3_1).f1).length : Int) = 0 then (if (((rd_T44 l0 x3_1).f2).length : Int) = 0 then (if ((rd_T44 l0 x3_1).f0) < 0 then (cohousingref36_Valid.j2 kj4 l0 x3_1 true ((rd_T44 l0 x3_1).f0) ((rd_T44 l0 x3_1).f1) ((rd_T44 l0 x3_1).f2)) else (cohousingref36_Valid.j2 kj4 l0 x3_1 (decide (((rd_T44 l0 x3_1).f0) > 64)) ((rd_T44 l0 x3_1).f0) ((rd_T44 l0 x3_1).f1) ((rd_T44 l0 x3_1).f2))) else (cohousingref36_Valid.j2 kj4 l0 x3_1 true ((rd_T44 l0 x3_1).f0) ((rd_T44 l0 x3_1).f1) ((rd_T44 l0 x3_1).f2))) else (cohousingref36_Valid.j2 kj4 l0 x3_1 false ((rd_T44 l0 x3_1).f0) ((rd_T44 l0 x3_1).f1) ((rd_T44 l0 x3_1).f2))) = some r := by rw [if_neg (show ¬ (false = true) by decide)] at H; exact H
         clear H
         have H := H1
         clear H1
         have HC13 := Aside0.mk H
         clear H
         go_upto_region 9 with (fail)
         repeat (go_quiet (fail); go_upto_region 9 with (fail))
         go_cut [48] (fun v48 wc => ∃ (kq : Nat) (x48_12 : Bool), v48 = .bool x48_12 ∧ Aside0 (cohousingref36_Valid.j2 kq l0 x3_1 x48_12 ((rd_T44 l0 x3_1).f0) ((rd_T44 l0 x3_1).f1) ((rd_T44 l0 x3_1).f2) = some r) ∧ Aside0 (kq ≤ kj4) ∧ Aside0 (wc.heap[gb124]? = some (.cells #[.int .i64 ((rd_T44 l0 x3_1).f0), (.slice A123_1 ((rd_T44 l0 x3_1).f1).length c123_1), (.slice A123_2 ((rd_T44 l0 x3_1).f2).length c123_2)] 44 (0, 0))) ∧ Aside0 (Below w.heap.size w wc))
         case first =>
          have H := HC13.out
          clear HC13
          by_cases c14 : (((rd_T44 l0 x3_1).f1).length : Int) = 0
          ·rw [if_pos c14] at H
           have c14b0 : ((((rd_T44 l0 x3_1).f1).length : Int) == 0) = true := beq_iff_eq.mpr c14
           have c14b1 : ((((rd_T44 l0 x3_1).f1).length : Int) != 0) = false := bne_eq_false_iff_eq.mpr c14
           clear c14
           (first | rw [c14b0] | (simp only [i64_w, i32_w]; rw [c14b0]) | skip)
           by_cases c15 : (((rd_T44 l0 x3_1).f2).length : Int) = 0
           ·rw [if_pos c15] at H
            have c15b0 : ((((rd_T44 l0 x3_1).f2).length : Int) == 0) = true := beq_iff_eq.mpr c15
            have c15b1 : ((((rd_T44 l0 x3_1).f2).length : Int) != 0) = false := bne_eq_false_iff_eq.mpr c15
            clear c15
            by_cases c16 : ((rd_T44 l0 x3_1).f0) < 0
            ·rw [if_pos c16] at H
             have c16b0 : decide (((rd_T44 l0 x3_1).f0) < 0) = true := decide_eq_true c16
             clear c16
             have H' := Aside0.mk H
             clear H
             have hcz17_0 : wc.cell? ⟨gb124, 0, none⟩ = some (.int .i64 ((rd_T44 l0 x3_1).f0)) := (blk_cell BK124.out 0).trans rfl
             have hcz17_1 : wc.cell? ⟨gb124, 1, none⟩ = some (.slice A123_1 ((rd_T44 l0 x3_1).f1).length c123_1) := (blk_cell BK124.out 1).trans rfl
             have hcz17_2 : wc.cell? ⟨gb124, 2, none⟩ = some (.slice A123_2 ((rd_T44 l0 x3_1).f2).length c123_2) := (blk_cell BK124.out 2).trans rfl
             have hfz17_0 := blk_frozen BK124.out 0
             have hfz17_1 := blk_frozen BK124.out 1
             have hfz17_2 := blk_frozen BK124.out 2
             go_wp2
             repeat (go_quiet (fail); try go_wp2)
             go_meet
             case rel => exact ⟨_, (true), (by first | rfl | (simp; done) | (simp [*]; done)), H', ⟨by have := HK1.out; have := HJ4.out; first | omega | exact Nat.le_refl _⟩, ⟨by (with_reducible repeat (first | refine blk_drewN ?_ _ | refine blk_drew ?_ | refine blk_alloc ?_ _)); exact BK124.out⟩, ⟨by repeat (first | (with_reducible first | exact HB.out | apply below_alloc | apply pw_below_drewN | apply below_drew1 | refine below_set ?_ GE124.out) | exact HB.out)⟩⟩
            ·rw [if_neg c16] at H
             have c16b0 : decide (((rd_T44 l0 x3_1).f0) < 0) = false := decide_eq_false c16
             clear c16
             have H' := Aside0.mk H
             clear H
             have hcz18_0 : wc.cell? ⟨gb124, 0, none⟩ = some (.int .i64 ((rd_T44 l0 x3_1).f0)) := (blk_cell BK124.out 0).trans rfl
             have hcz18_1 : wc.cell? ⟨gb124, 1, none⟩ = some (.slice A123_1 ((rd_T44 l0 x3_1).f1).length c123_1) := (blk_cell BK124.out 1).trans rfl
             have hcz18_2 : wc.cell? ⟨gb124, 2, none⟩ = some (.slice A123_2 ((rd_T44 l0 x3_1).f2).length c123_2) := (blk_cell BK124.out 2).trans rfl
             have hfz18_0 := blk_frozen BK124.out 0
             have hfz18_1 := blk_frozen BK124.out 1
             have hfz18_2 := blk_frozen BK124.out 2
             go_wp2
             repeat (go_quiet (fail); try go_wp2)
             go_meet
             case rel => exact ⟨_, (decide (((rd_T44 l0 x3_1).f0) > 64)), (by first | rfl | (simp; done) | (simp [*]; done)), H', ⟨by have := HK1.out; have := HJ4.out; first | omega | exact Nat.le_refl _⟩, ⟨by (with_reducible repeat (first | refine blk_drewN ?_ _ | refine blk_drew ?_ | refine blk_alloc ?_ _)); exact BK124.out⟩, ⟨by repeat (first | (with_reducible first | exact HB.out | apply below_alloc | apply pw_below_drewN | apply below_drew1 | refine below_set ?_ GE124.out) | exact HB.out)⟩⟩
           ·rw [if_neg c15] at H
            have c15b0 : ((((rd_T44 l0 x3_1).f2).length : Int) == 0) = false := beq_eq_false_iff_ne.mpr c15
            have c15b1 : ((((rd_T44 l0 x3_1).f2).length : Int) != 0) = true := bne_iff_ne.mpr c15
            have c15b2 : ¬ (((rd_T44 l0 x3_1).f2) = []) := fun h_ => c15 (by rw [h_]; rfl)
            have H' := Aside0.mk H
            clear H
            have hcz19_0 : wc.cell? ⟨gb124, 0, none⟩ = some (.int .i64 ((rd_T44 l0 x3_1).f0)) := (blk_cell BK124.out 0).trans rfl
            have hcz19_1 : wc.cell? ⟨gb124, 1, none⟩ = some (.slice A123_1 ((rd_T44 l0 x3_1).f1).length c123_1) := (blk_cell BK124.out 1).trans rfl
            have hcz19_2 : wc.cell? ⟨gb124, 2, none⟩ = some (.slice A123_2 ((rd_T44 l0 x3_1).f2).length c123_2) := (blk_cell BK124.out 2).trans rfl
            have hfz19_0 := blk_frozen BK124.out 0
            have hfz19_1 := blk_frozen BK124.out 1
            have hfz19_2 := blk_frozen BK124.out 2
            go_wp2
            repeat (go_quiet (fail); try go_wp2)
            go_meet
            case rel => exact ⟨_, (true), (by first | rfl | (simp; done) | (simp [*]; done)), H', ⟨by have := HK1.out; have := HJ4.out; first | omega | exact Nat.le_refl _⟩, ⟨by (with_reducible repeat (first | refine blk_drewN ?_ _ | refine blk_drew ?_ | refine blk_alloc ?_ _)); exact BK124.out⟩, ⟨by repeat (first | (with_reducible first | exact HB.out | apply below_alloc | apply pw_below_drewN | apply below_drew1 | refine below_set ?_ GE124.out) | exact HB.out)⟩⟩
          ·rw [if_neg c14] at H
           have c14b0 : ((((rd_T44 l0 x3_1).f1).length : Int) == 0) = false := beq_eq_false_iff_ne.mpr c14
           have c14b1 : ((((rd_T44 l0 x3_1).f1).length : Int) != 0) = true := bne_iff_ne.mpr c14
           have c14b2 : ¬ (((rd_T44 l0 x3_1).f1) = []) := fun h_ => c14 (by rw [h_]; rfl)
           (first | rw [c14b0] | (simp only [i64_w, i32_w]; rw [c14b0]) | skip)
           have H' := Aside0.mk H
           clear H
           have hcz20_0 : wc.cell? ⟨gb124, 0, none⟩ = some (.int .i64 ((rd_T44 l0 x3_1).f0)) := (blk_cell BK124.out 0).trans rfl
           have hcz20_1 : wc.cell? ⟨gb124, 1, none⟩ = some (.slice A123_1 ((rd_T44 l0 x3_1).f1).length c123_1) := (blk_cell BK124.out 1).trans rfl
           have hcz20_2 : wc.cell? ⟨gb124, 2, none⟩ = some (.slice A123_2 ((rd_T44 l0 x3_1).f2).length c123_2) := (blk_cell BK124.out 2).trans rfl
           have hfz20_0 := blk_frozen BK124.out 0
           have hfz20_1 := blk_frozen BK124.out 1
           have hfz20_2 := blk_frozen BK124.out 2
           go_wp2
           repeat (go_quiet (fail); try go_wp2)
           go_meet
           case rel => exact ⟨_, (false), (by first | rfl | (simp; done) | (simp [*]; done)), H', ⟨by have := HK1.out; have := HJ4.out; first | omega | exact Nat.le_refl _⟩, ⟨by (with_reducible repeat (first | refine blk_drewN ?_ _ | refine blk_drew ?_ | refine blk_alloc ?_ _)); exact BK124.out⟩, ⟨by repeat (first | (with_reducible first | exact HB.out | apply below_alloc | apply pw_below_drewN | apply below_drew1 | refine below_set ?_ GE124.out) | exact HB.out)⟩⟩
         case rest =>
          clear HC13
          try clear c1
          try clear p1
          try clear q1
          try clear hx1
          try clear c2
          try clear c2b0
          try clear c2b1
          try clear p2
          try clear c3
          try clear c3b0
          try clear c4
          try clear c4b0
          try clear c8
          try clear c8b0
          try clear c8b1
          try clear c12
          try clear p12
          try clear q12
          try clear hx12
          try clear c14
          try clear c14b0
          try clear c14b1
          try clear c14b2
          try clear c15
          try clear c15b0
          try clear c15b1
          try clear c15b2
          try clear c16
          try clear c16b0
          try clear hcz11_0
          try clear hcz11_1
          try clear hcz11_2
          try clear hcz17_0
          try clear hcz17_1
          try clear hcz17_2
          try clear hcz18_0
          try clear hcz18_1
          try clear hcz18_2
          try clear hcz19_0
          try clear hcz19_1
          try clear hcz19_2
          try clear hcz20_0
          try clear hcz20_1
          try clear hcz20_2
          try clear hcz7_0
          try clear hcz7_1
          try clear hcz7_2
          try clear hcz9_0
          try clear hcz9_1
          try clear hcz9_2
          try clear hfz11_0
          try clear hfz11_1
          try clear hfz11_2
          try clear hfz17_0
          try clear hfz17_1
          try clear hfz17_2
          try clear hfz18_0
          try clear hfz18_1
          try clear hfz18_2
          try clear hfz19_0
          try clear hfz19_1
          try clear hfz19_2
          try clear hfz20_0
          try clear hfz20_1
          try clear hfz20_2
          try clear hfz7_0
          try clear hfz7_1
          try clear hfz7_2
          try clear hfz9_0
          try clear hfz9_1
          try clear hfz9_2
          try clear hx123_0
          try clear hx123_1
          try clear hx123_2
          try clear p1
          try clear p123
          try clear p2
          try clear q1
          try clear q123
          obtain ⟨kq, x48_12, rfl, HA, HJ12, BK124, HB⟩ := hcut
          cases kq with
          | zero => exact absurd HA.out (by simp [cohousingref36_Valid.j2])
          | succ kj12 =>
           have H := HA.out
           clear HA
           simp only [cohousingref36_Valid.j2] at H
           by_cases c21 : x48_12 = true
           ·subst c21
            have H1 : (some false) = some r := by rw [if_pos rfl] at H; exact H
            clear H
            have H := H1
            clear H1
            obtain rfl := Option.some.inj H
            go_wp2
            repeat (go_quiet (fail); try go_wp2)
            go_ret
            exact ⟨by first | rfl | (simp [errW_none, errW_some] <;> rfl) | (simp [*, errW_none, errW_some] <;> rfl), by repeat (first | (with_reducible first | exact HB.out | apply below_alloc | apply pw_below_drewN | apply below_drew1 | refine below_set ?_ GE124.out) | exact HB.out)⟩
           ·replace c21 := Bool.eq_false_iff.mpr c21
            subst c21
            have H1 : (if (((rd_T44 l0 x3_1).f1).length : Int) > 0 then (if (((rd_T44 l0 x3_1).f2).length : Int) = (shl .i64 1 (((rd_T44 l0 x3_1).f1).length : Int)) then (if ((rd_T44 l0 x3_1).f0) = 0 then (cohousingref36_Valid.l0 kj12 l0 (wrap64 (x3_1 + 1))) else (some false)) else (some false)) else (cohousingref36_Valid.l0 kj12 l0 (wrap64 (x3_1 + 1)))) = some r := by rw [if_neg (show ¬ (false = true) by decide)] at H; exact H
            clear H
            have H := H1
            clear H1
            by_cases c22 : (((rd_T44 l0 x3_1).f1).length : Int) > 0
            ·rw [if_pos c22] at H
             have c22b0 : decide (0 < (((rd_T44 l0 x3_1).f1).length : Int)) = true := decide_eq_true c22
             have c22b1 : decide (0 < ((rd_T44 l0 x3_1).f1).length) = true := decide_eq_true (by omega)
             clear c22
             obtain ⟨ji23, hji23⟩ : ∃ j_ : Int, (shl .i64 1 (((rd_T44 l0 x3_1).f1).length : Int)) = j_ := ⟨_, rfl⟩
             replace H : (if (((rd_T44 l0 x3_1).f2).length : Int) = (ji23) then (if ((rd_T44 l0 x3_1).f0) = 0 then (cohousingref36_Valid.l0 kj12 l0 (wrap64 (x3_1 + 1))) else (some false)) else (some false)) = some r := by first | (rw [hji23] at H; exact H) | (simp only [hji23] at H ⊢; exact H)
             have hji23_ : (IntKind.i64.wrap (1 * 2 ^ min (((rd_T44 l0 x3_1).f1).length : Int).toNat 64)) = ji23 := hji23
             have hji23z : (((rd_T44 l0 x3_1).f1).length : Int) ≤ 64 → (IntKind.i64.wrap (1 * 2 ^ (((rd_T44 l0 x3_1).f1).length : Int).toNat)) = ji23 := shl_small hji23
             have hji23p : (IntKind.i64.wrap (1 * 2 ^ min ((rd_T44 l0 x3_1).f1).length 64)) = ji23 := hji23_
             have hji23q : (((rd_T44 l0 x3_1).f1).length : Int) ≤ 64 → (IntKind.i64.wrap (1 * 2 ^ ((rd_T44 l0 x3_1).f1).length)) = ji23 := hji23z
             have hji23r : (IntKind.i64.wrap (2 ^ min ((rd_T44 l0 x3_1).f1).length 64)) = ji23 := by have h_ := hji23p; rw [Int.one_mul] at h_; exact h_
             have hji23s : (((rd_T44 l0 x3_1).f1).length : Int) ≤ 64 → (IntKind.i64.wrap (2 ^ ((rd_T44 l0 x3_1).f1).length)) = ji23 := fun hle_ => by have h_ := hji23q hle_; rw [Int.one_mul] at h_; exact h_
             have hji23u : (IntKind.i64.wrap (2 ^ min (((rd_T44 l0 x3_1).f1).length : Int).toNat 64)) = ji23 := by have h_ := hji23_; rw [Int.one_mul] at h_; exact h_
             have hji23v : (((rd_T44 l0 x3_1).f1).length : Int) ≤ 64 → (IntKind.i64.wrap (2 ^ (((rd_T44 l0 x3_1).f1).length : Int).toNat)) = ji23 := fun hle_ => by have h_ := hji23z hle_; rw [Int.one_mul] at h_; exact h_
             have hji23y : (wrap64 (1 * 2 ^ min (((rd_T44 l0 x3_1).f1).length : Int).toNat 64)) = ji23 := (i64_w _).symm.trans hji23_
             have hji23x : (((rd_T44 l0 x3_1).f1).length : Int) ≤ 64 → (wrap64 (1 * 2 ^ (((rd_T44 l0 x3_1).f1).length : Int).toNat)) = ji23 := fun h_ => (i64_w _).symm.trans (hji23z h_)
             by_cases c24 : (((rd_T44 l0 x3_1).f2).length : Int) = (ji23)
             ·rw [if_pos c24] at H
              have c24b0 : ((((rd_T44 l0 x3_1).f2).length : Int) == (ji23)) = true := beq_iff_eq.mpr c24
              have c24b1 : ((((rd_T44 l0 x3_1).f2).length : Int) != (ji23)) = false := bne_eq_false_iff_eq.mpr c24
              clear c24
              by_cases c25 : ((rd_T44 l0 x3_1).f0) = 0
              ·rw [if_pos c25] at H
               have c25b0 : (((rd_T44 l0 x3_1).f0) == 0) = true := beq_iff_eq.mpr c25
               have c25b1 : (((rd_T44 l0 x3_1).f0) != 0) = false := bne_eq_false_iff_eq.mpr c25
               clear c25
               have H' := Aside0.mk H
               clear H
               have hcz26_0 : wc.cell? ⟨gb124, 0, none⟩ = some (.int .i64 ((rd_T44 l0 x3_1).f0)) := (blk_cell BK124.out 0).trans rfl
               have hcz26_1 : wc.cell? ⟨gb124, 1, none⟩ = some (.slice A123_1 ((rd_T44 l0 x3_1).f1).length c123_1) := (blk_cell BK124.out 1).trans rfl
               have hcz26_2 : wc.cell? ⟨gb124, 2, none⟩ = some (.slice A123_2 ((rd_T44 l0 x3_1).f2).length c123_2) := (blk_cell BK124.out 2).trans rfl
               have hfz26_0 := blk_frozen BK124.out 0
               have hfz26_1 := blk_frozen BK124.out 1
               have hfz26_2 := blk_frozen BK124.out 2
               go_wp2
               repeat (go_quiet (fail); try go_wp2)
               go_roundg kj12
               case measure => have := HK1.out; have := HJ4.out; have := HJ12.out; omega
               case rel => exact ⟨(wrap64 (x3_1 + 1)), (by first | rfl | (simp; done) | (simp [*]; done)), H', ⟨by have := HK1.out; have := HJ4.out; have := HJ12.out; omega⟩, ⟨by repeat (first | (with_reducible first | exact HB.out | apply below_alloc | apply pw_below_drewN | apply below_drew1 | refine below_set ?_ GE124.out) | exact HB.out)⟩⟩
              ·rw [if_neg c25] at H
               have c25b0 : (((rd_T44 l0 x3_1).f0) == 0) = false := beq_eq_false_iff_ne.mpr c25
               have c25b1 : (((rd_T44 l0 x3_1).f0) != 0) = true := bne_iff_ne.mpr c25
               obtain rfl := Option.some.inj H
               have hcz27_0 : wc.cell? ⟨gb124, 0, none⟩ = some (.int .i64 ((rd_T44 l0 x3_1).f0)) := (blk_cell BK124.out 0).trans rfl
               have hcz27_1 : wc.cell? ⟨gb124, 1, none⟩ = some (.slice A123_1 ((rd_T44 l0 x3_1).f1).length c123_1) := (blk_cell BK124.out 1).trans rfl
               have hcz27_2 : wc.cell? ⟨gb124, 2, none⟩ = some (.slice A123_2 ((rd_T44 l0 x3_1).f2).length c123_2) := (blk_cell BK124.out 2).trans rfl
               have hfz27_0 := blk_frozen BK124.out 0
               have hfz27_1 := blk_frozen BK124.out 1
               have hfz27_2 := blk_frozen BK124.out 2
               go_wp2
               repeat (go_quiet (fail); try go_wp2)
               go_ret
               exact ⟨by first | rfl | (simp [errW_none, errW_some] <;> rfl) | (simp only [← hji23]; first | rfl | (simp [errW_none, errW_some] <;> rfl)) | (simp [*, errW_none, errW_some] <;> rfl), by repeat (first | (with_reducible first | exact HB.out | apply below_alloc | apply pw_below_drewN | apply below_drew1 | refine below_set ?_ GE124.out) | exact HB.out)⟩
             ·rw [if_neg c24] at H
              have c24b0 : ((((rd_T44 l0 x3_1).f2).length : Int) == (ji23)) = false := beq_eq_false_iff_ne.mpr c24
              have c24b1 : ((((rd_T44 l0 x3_1).f2).length : Int) != (ji23)) = true := bne_iff_ne.mpr c24
              obtain rfl := Option.some.inj H
              have hcz28_0 : wc.cell? ⟨gb124, 0, none⟩ = some (.int .i64 ((rd_T44 l0 x3_1).f0)) := (blk_cell BK124.out 0).trans rfl
              have hcz28_1 : wc.cell? ⟨gb124, 1, none⟩ = some (.slice A123_1 ((rd_T44 l0 x3_1).f1).length c123_1) := (blk_cell BK124.out 1).trans rfl
              have hcz28_2 : wc.cell? ⟨gb124, 2, none⟩ = some (.slice A123_2 ((rd_T44 l0 x3_1).f2).length c123_2) := (blk_cell BK124.out 2).trans rfl
              have hfz28_0 := blk_frozen BK124.out 0
              have hfz28_1 := blk_frozen BK124.out 1
              have hfz28_2 := blk_frozen BK124.out 2
              go_wp2
              repeat (go_quiet (fail); try go_wp2)
              go_ret
              exact ⟨by first | rfl | (simp [errW_none, errW_some] <;> rfl) | (simp only [← hji23]; first | rfl | (simp [errW_none, errW_some] <;> rfl)) | (simp [*, errW_none, errW_some] <;> rfl), by repeat (first | (with_reducible first | exact HB.out | apply below_alloc | apply pw_below_drewN | apply below_drew1 | refine below_set ?_ GE124.out) | exact HB.out)⟩
            ·rw [if_neg c22] at H
             have c22b0 : decide (0 < (((rd_T44 l0 x3_1).f1).length : Int)) = false := decide_eq_false c22
             have c22b1 : decide (0 < ((rd_T44 l0 x3_1).f1).length) = false := decide_eq_false (by omega)
             clear c22
             have H' := Aside0.mk H
             clear H
             have hcz29_0 : wc.cell? ⟨gb124, 0, none⟩ = some (.int .i64 ((rd_T44 l0 x3_1).f0)) := (blk_cell BK124.out 0).trans rfl
             have hcz29_1 : wc.cell? ⟨gb124, 1, none⟩ = some (.slice A123_1 ((rd_T44 l0 x3_1).f1).length c123_1) := (blk_cell BK124.out 1).trans rfl
             have hcz29_2 : wc.cell? ⟨gb124, 2, none⟩ = some (.slice A123_2 ((rd_T44 l0 x3_1).f2).length c123_2) := (blk_cell BK124.out 2).trans rfl
             have hfz29_0 := blk_frozen BK124.out 0
             have hfz29_1 := blk_frozen BK124.out 1
             have hfz29_2 := blk_frozen BK124.out 2
             go_wp2
             repeat (go_quiet (fail); try go_wp2)
             go_roundg kj12
             case measure => have := HK1.out; have := HJ4.out; have := HJ12.out; omega
             case rel => exact ⟨(wrap64 (x3_1 + 1)), (by first | rfl | (simp; done) | (simp [*]; done)), H', ⟨by have := HK1.out; have := HJ4.out; have := HJ12.out; omega⟩, ⟨by repeat (first | (with_reducible first | exact HB.out | apply below_alloc | apply pw_below_drewN | apply below_drew1 | refine below_set ?_ GE124.out) | exact HB.out)⟩⟩
     ·rw [if_neg c4] at H
      exact absurd H (by simp)
    ·rw [if_neg c3] at H
     have c3b0 : decide (x3_1 < (l0.length : Int)) = false := decide_eq_false c3
     clear c3
     obtain rfl := Option.some.inj H
     go_wp2
     repeat (go_quiet (fail); try go_wp2)
     go_ret
     exact ⟨by first | rfl | (simp [errW_none, errW_some] <;> rfl) | (simp [*, errW_none, errW_some] <;> rfl), by repeat (first | (with_reducible first | exact HB.out | apply below_alloc | apply pw_below_drewN | apply below_drew1) | exact HB.out)⟩

end Go.Proofs.Ytjdhnhfglpogmaa.P
